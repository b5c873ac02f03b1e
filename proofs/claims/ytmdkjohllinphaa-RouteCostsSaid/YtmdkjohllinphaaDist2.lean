/- Costs that fall by rounds come to the cheapest ones; the route that they lead along: the plain law. -/
import Derived.Test.YtmdkjohllinphaaDist
namespace Go.Proofs.Ytmdkjohllinphaa
set_option linter.unusedVariables false
set_option linter.unusedSimpArgs false

/-! ### How many are cheaper -/
theorem filt_le {p q : Nat → Bool} (h : ∀ i, p i = true → q i = true) : ∀ n, ((List.range n).filter p).length ≤ ((List.range n).filter q).length
  | 0 => by simp
  | n + 1 => by
    have ih := filt_le h n
    rw [List.range_succ, List.filter_append, List.filter_append, List.length_append, List.length_append]
    by_cases hp : p n = true
    · simp [hp, h n hp]; omega
    · simp [hp]; omega
theorem filt_lt {p q : Nat → Bool} (h : ∀ i, p i = true → q i = true) {k : Nat} (hq : q k = true) (hp : p k = false) : ∀ n, k < n → ((List.range n).filter p).length < ((List.range n).filter q).length
  | 0, hk => by omega
  | n + 1, hk => by
    rw [List.range_succ, List.filter_append, List.filter_append, List.length_append, List.length_append]
    by_cases e : k = n
    · subst e
      have := filt_le h k
      simp [hp, hq]; omega
    · have ih := filt_lt h hq hp n (by omega)
      by_cases hpn : p n = true
      · simp [hpn, h n hpn]; omega
      · simp [hpn]; omega
def rank (n : Nat) (d : Nat → Int) (j : Nat) : Nat := ((List.range n).filter fun i => decide (d i < d j)).length
theorem rank_lt {n : Nat} {d : Nat → Int} {i j : Nat} (hi : i < n) (h : d i < d j) : rank n d i < rank n d j :=
  filt_lt (fun k hk => by simp only [decide_eq_true_eq] at *; omega) (k := i) (by simpa using h) (by simp) n hi
theorem rank_top {n : Nat} {d : Nat → Int} {j : Nat} (hj : j < n) : rank n d j < n := by
  have := filt_lt (p := fun i => decide (d i < d j)) (q := fun _ => true) (fun _ _ => rfl) (k := j) rfl (by simp) n hj
  rw [List.filter_eq_self.2 (fun _ _ => rfl), List.length_range] at this
  exact this
theorem cntS_same {o : Nat → Int} {k : Nat} {c : Int} (hc : 0 ≤ c) (ho : 0 ≤ o k) (n : Nat) : cntS n (updI o k c) = cntS n o := by
  unfold cntS
  congr 1
  refine List.filter_congr fun i _ => ?_
  unfold updI
  split
  · rename_i e; subst e; simp [hc, ho]
  · rfl

/-! ### Rounds -/
structure BF (gw gh : Nat) (V : List Int) (a : Nat) (d : Nat → Int) (r : Nat) (fell : Bool) (E : Nat → Nat → Prop) (o : Nat → Int) : Prop where
  zero : o a = 0
  ge : ∀ j, j < gw * gh → 0 ≤ o j → d j ≤ o j
  bnd : ∀ j, j < gw * gh → o j ≤ cntS (gw * gh) o * far
  rk : ∀ j, j < gw * gh → rank (gw * gh) d j ≤ r → o j = d j
  rel : ∀ p j, p < gw * gh → j < gw * gh → Side gw p j → E p j → rank (gw * gh) d p ≤ r → 0 ≤ o j ∧ o j ≤ d p + st V p j
  quiet : fell = false → ∀ p j, p < gw * gh → j < gw * gh → Side gw p j → E p j → 0 ≤ o p → 0 ≤ o j ∧ o j ≤ o p + st V p j
section
variable {gw gh a r : Nat} {V : List Int} {d o : Nat → Int} {fell : Bool} {E E' : Nat → Nat → Prop}
theorem BF.start (hV : V.length = gw * gh) (hd : IsDist gw V a d) (ha : a < gw * gh) : BF gw gh V a d 0 false (fun _ _ => False) (updI (fun _ => -1) a 0) := by
  have e : ∀ j, j ≠ a → updI (fun _ => (-1 : Int)) a 0 j = -1 := fun j hj => by unfold updI; rw [if_neg hj]
  have ea : updI (fun _ => (-1 : Int)) a 0 a = 0 := by unfold updI; rw [if_pos rfl]
  refine ⟨ea, fun j hj h0 => ?_, fun j hj => ?_, fun j hj hr => ?_, fun _ _ _ _ _ h => h.elim, fun _ _ _ _ _ _ h => h.elim⟩
  · by_cases ej : j = a
    · subst ej; rw [ea, hd.zero]; exact Int.le_refl _
    · rw [e j ej] at h0; omega
  · have : (updI (fun _ => (-1 : Int)) a 0) j ≤ 0 := by unfold updI; split <;> first | omega | (show (-1 : Int) ≤ 0; omega)
    have h2 : (0 : Int) ≤ (cntS (gw * gh) (updI (fun _ => -1) a 0) : Nat) * far := by unfold far; omega
    omega
  · by_cases ej : j = a
    · subst ej; rw [ea, hd.zero]
    · obtain ⟨i, hi, _, he⟩ := hd.pred j (hV ▸ hj) ej
      have := st_pos V i j
      have := rank_lt (n := gw * gh) (d := d) (i := i) (j := j) (hV ▸ hi) (by omega)
      omega
theorem BF.weaken (h : BF gw gh V a d r fell E o) (hE : ∀ p j, p < gw * gh → j < gw * gh → Side gw p j → E' p j → E p j) : BF gw gh V a d r fell E' o :=
  ⟨h.zero, h.ge, h.bnd, h.rk, fun p j a b s e => h.rel p j a b s (hE p j a b s e), fun f p j a b s e => h.quiet f p j a b s (hE p j a b s e)⟩
/-- a cell that no cost is known of yet -/
theorem BF.pass (hV : V.length = gw * gh) (hd : IsDist gw V a d) {i : Nat} (hi : i < gw * gh) (h : BF gw gh V a d r fell (fun p _ => p < i) o) (ho : o i < 0) : BF gw gh V a d r fell (fun p _ => p < i + 1) o := by
  have hn := hd.nn i (by omega)
  refine ⟨h.zero, h.ge, h.bnd, h.rk, fun p j hp hj s e hr => ?_, fun f p j hp hj s e h0 => ?_⟩
  · by_cases e1 : p = i
    · subst e1; have := h.rk p hp hr; omega
    · exact h.rel p j hp hj s (show p < i by omega) hr
  · by_cases e1 : p = i
    · subst e1; omega
    · exact h.quiet f p j hp hj s (show p < i by omega) h0
def Edge (i : Nat) (todo : List Nat) (p j : Nat) : Prop := p < i ∨ (p = i ∧ j ∉ todo)
theorem BF.enter (hgw : 0 < gw) {i : Nat} (hi : i < gw * gh) (h : BF gw gh V a d r fell (fun p _ => p < i) o) : BF gw gh V a d r fell (Edge i (nearN gw (gw * gh) i)) o :=
  h.weaken fun p j hp hj s e => by
    rcases e with e | ⟨rfl, e⟩
    · exact e
    · exact absurd ((nearN_mem hgw hi).2 ⟨hj, s⟩) e
theorem BF.leave {i : Nat} (h : BF gw gh V a d r fell (Edge i []) o) : BF gw gh V a d r fell (fun p _ => p < i + 1) o :=
  h.weaken fun p j hp hj s (e : p < i + 1) => by
    by_cases e1 : p = i
    · exact .inr ⟨e1, by simp⟩
    · exact .inl (by omega)
theorem BF.stay {i j : Nat} {todo : List Nat} (hi : i < gw * gh) (h : BF gw gh V a d r fell (Edge i (j :: todo)) o) (h0 : 0 ≤ o j) (hle : o j ≤ o i + st V i j) : BF gw gh V a d r fell (Edge i todo) o := by
  have hE : ∀ p k, Edge i todo p k → Edge i (j :: todo) p k ∨ (p = i ∧ k = j) := fun p k e => by
    rcases e with e | ⟨e, hm⟩
    · exact .inl (.inl e)
    · by_cases ek : k = j
      · exact .inr ⟨e, ek⟩
      · exact .inl (.inr ⟨e, by simp [ek, hm]⟩)
  refine ⟨h.zero, h.ge, h.bnd, h.rk, fun p k hp hk s e hr => ?_, fun f p k hp hk s e hp0 => ?_⟩
  · rcases hE p k e with e | ⟨rfl, rfl⟩
    · exact h.rel p k hp hk s e hr
    · rw [← h.rk p hp hr]; exact ⟨h0, hle⟩
  · rcases hE p k e with e | ⟨rfl, rfl⟩
    · exact h.quiet f p k hp hk s e hp0
    · exact ⟨h0, hle⟩
theorem BF.fall (hV : V.length = gw * gh) (hd : IsDist gw V a d) {i j : Nat} {todo : List Nat} (hi : i < gw * gh) (hj : j < gw * gh) (s : Side gw i j) (hs : st V i j ≤ far) (h : BF gw gh V a d r fell (Edge i (j :: todo)) o) (hoi : 0 ≤ o i)
    (hlt : o j < 0 ∨ o i + st V i j < o j) : BF gw gh V a d r true (Edge i todo) (updI o j (o i + st V i j)) := by
  have hst := st_pos V i j
  have hself : updI o j (o i + st V i j) j = o i + st V i j := by unfold updI; rw [if_pos rfl]
  have hoth : ∀ k, k ≠ j → updI o j (o i + st V i j) k = o k := fun k hk => by unfold updI; rw [if_neg hk]
  have hja : j ≠ a := by rintro rfl; have := h.zero; omega
  have hcnt : (o i + st V i j ≤ cntS (gw * gh) (updI o j (o i + st V i j)) * far) ∧ cntS (gw * gh) o ≤ cntS (gw * gh) (updI o j (o i + st V i j)) := by
    have hb := h.bnd i hi
    by_cases e : o j < 0
    · rw [cntS_upd (by omega) e, if_pos hj]; unfold far at *; push_cast; omega
    · rw [cntS_same (by omega) (by omega)]; have := h.bnd j hj; omega
  have hE : ∀ p k, Edge i todo p k → Edge i (j :: todo) p k ∨ (p = i ∧ k = j) := fun p k e => by
    rcases e with e | ⟨e, hm⟩
    · exact .inl (.inl e)
    · by_cases ek : k = j
      · exact .inr ⟨e, ek⟩
      · exact .inl (.inr ⟨e, by simp [ek, hm]⟩)
  refine ⟨by rw [hoth a (fun e => hja e.symm)]; exact h.zero, fun k hk h0 => ?_, fun k hk => ?_, fun k hk hr => ?_, fun p k hp hk s' e hr => ?_, fun f => by cases f⟩
  · by_cases ek : k = j
    · subst ek; rw [hself]; have := hd.le i k (hV ▸ hi) (hV ▸ hj) s; have := h.ge i hi hoi; omega
    · rw [hoth k ek] at h0 ⊢; exact h.ge k hk h0
  · by_cases ek : k = j
    · subst ek; rw [hself]; exact hcnt.1
    · rw [hoth k ek]; have := h.bnd k hk; have := hcnt.2; unfold far at *; omega
  · by_cases ek : k = j
    · subst ek
      have h1 := h.rk k hk hr
      have h2 := hd.nn k (hV ▸ hk)
      have h3 := hd.le i k (hV ▸ hi) (hV ▸ hk) s
      have h4 := h.ge i hi hoi
      omega
    · rw [hoth k ek]; exact h.rk k hk hr
  · by_cases ek : k = j
    · subst ek
      rw [hself]
      refine ⟨by omega, ?_⟩
      rcases hE p k e with e | ⟨rfl, _⟩
      · have := h.rel p k hp hk s' e hr; omega
      · have := h.rk p hp hr; omega
    · rw [hoth k ek]
      rcases hE p k e with e | ⟨_, e⟩
      · exact h.rel p k hp hk s' e hr
      · exact absurd e ek
theorem BF.still (hV : V.length = gw * gh) (hd : IsDist gw V a d) (h : BF gw gh V a d r false (fun p _ => p < gw * gh) o) (ha : a < gw * gh) (hgw : 0 < gw) : ∀ j, j < gw * gh → o j = d j := by
  have hpos : ∀ j, j < gw * gh → 0 ≤ o j := grid_conn hgw (P := fun i => 0 ≤ o i) (fun i j hi hj s h0 => (h.quiet rfl i j hi hj s hi h0).1) ha (by rw [h.zero]; exact Int.le_refl _)
  intro j hj
  have h1 := hd.le_of (d' := o) (by rw [h.zero]; exact Int.le_refl _) (fun i j hi hj s _ => (h.quiet rfl i j (hV ▸ hi) (hV ▸ hj) s (hV ▸ hi) (hpos i (hV ▸ hi))).2) j (hV ▸ hj)
  have h2 := h.ge j hj (hpos j hj)
  omega
theorem BF.next (hV : V.length = gw * gh) (hd : IsDist gw V a d) (h : BF gw gh V a d r fell (fun p _ => p < gw * gh) o) : BF gw gh V a d (r + 1) false (fun _ _ => False) o := by
  refine ⟨h.zero, h.ge, h.bnd, fun j hj hr => ?_, fun _ _ _ _ _ e => e.elim, fun _ _ _ _ _ _ e => e.elim⟩
  by_cases e : j = a
  · subst e; rw [h.zero, hd.zero]
  · obtain ⟨i, hi, s, he⟩ := hd.pred j (hV ▸ hj) e
    have := st_pos V i j
    have hrk := rank_lt (n := gw * gh) (d := d) (i := i) (j := j) (hV ▸ hi) (by omega)
    have h1 := h.rel i j (hV ▸ hi) hj s (hV ▸ hi) (by omega)
    have h2 := h.ge j hj h1.1
    omega
theorem BF.last (h : BF gw gh V a d r fell E o) (hr : gw * gh ≤ r) : ∀ j, j < gw * gh → o j = d j := fun j hj => h.rk j hj (by have := rank_top (d := d) hj; omega)
end

/-! ### The route -/
def nextN (gw : Nat) (V : List Int) (d : Nat → Int) (i : Nat) : Nat := ((nearN gw V.length i).find? fun j => d j + st V i j == d i).getD i
def routeF (gw : Nat) (V : List Int) (d : Nat → Int) (b : Nat) : Nat → Nat → List Nat
  | 0, i => [i]
  | k + 1, i => if i = b then [i] else i :: routeF gw V d b k (nextN gw V d i)
section
variable {gw gh b : Nat} {V : List Int} {d : Nat → Int}
theorem nextN_ok (hgw : 0 < gw) (hV : V.length = gw * gh) (hd : IsDist gw V b d) {i : Nat} (hi : i < gw * gh) (h : i ≠ b) :
    ∃ pre post, nearN gw V.length i = pre ++ nextN gw V d i :: post ∧ (∀ j ∈ pre, d j + st V i j ≠ d i) ∧ d (nextN gw V d i) + st V i (nextN gw V d i) = d i ∧ nextN gw V d i < gw * gh ∧ Side gw i (nextN gw V d i) := by
  obtain ⟨j, hj, s, he⟩ := hd.pred i (hV ▸ hi) h
  have hmem : j ∈ nearN gw V.length i := by rw [hV]; exact (nearN_mem hgw hi).2 ⟨hV ▸ hj, s.symm⟩
  have hsome : ((nearN gw V.length i).find? fun j => d j + st V i j == d i).isSome = true := by
    rw [List.find?_isSome]
    exact ⟨j, hmem, by rw [st_symm, ← he]; simp⟩
  obtain ⟨k, hk⟩ := Option.isSome_iff_exists.1 hsome
  have hn : nextN gw V d i = k := by unfold nextN; rw [hk]; rfl
  obtain ⟨hp, pre, post, e, hpre⟩ := List.find?_eq_some_iff_append.1 hk
  have hkm : k ∈ nearN gw V.length i := List.mem_of_find?_eq_some hk
  rw [hV] at hkm
  have h2 := (nearN_mem hgw hi).1 hkm
  rw [hn]
  refine ⟨pre, post, e, fun j hj => ?_, by simpa using hp, h2.1, h2.2⟩
  have := hpre j hj
  simpa using this
theorem routeF_more (hgw : 0 < gw) (hV : V.length = gw * gh) (hd : IsDist gw V b d) : ∀ (k : Nat) (i : Nat), i < gw * gh → d i ≤ k → routeF gw V d b (k + 1) i = routeF gw V d b k i
  | 0, i, hi, h => by
    have : i = b := by
      by_cases e : i = b
      · exact e
      · obtain ⟨j, hj, s, he⟩ := hd.pred i (hV ▸ hi) e
        have := st_pos V j i
        have := hd.nn j hj
        omega
    simp [routeF, this]
  | k + 1, i, hi, h => by
    by_cases e : i = b
    · simp [routeF, e]
    · obtain ⟨_, _, _, _, he, hlt, _⟩ := nextN_ok hgw hV hd hi e
      have := st_pos V i (nextN gw V d i)
      have ih := routeF_more hgw hV hd k (nextN gw V d i) hlt (by omega)
      rw [routeF, if_neg e, ih]
      rw [routeF, if_neg e]
def routeL (gw : Nat) (V : List Int) (d : Nat → Int) (b i : Nat) : List Nat := routeF gw V d b (d i).toNat i
theorem routeL_here (hd : IsDist gw V b d) : routeL gw V d b b = [b] := by unfold routeL; rw [hd.zero]; rfl
theorem routeF_big (hgw : 0 < gw) (hV : V.length = gw * gh) (hd : IsDist gw V b d) {i : Nat} (hi : i < gw * gh) : ∀ m : Nat, routeF gw V d b ((d i).toNat + m) i = routeL gw V d b i
  | 0 => rfl
  | m + 1 => by rw [← Nat.add_assoc, routeF_more hgw hV hd _ i hi (by omega), routeF_big hgw hV hd hi m]
theorem routeL_step (hgw : 0 < gw) (hV : V.length = gw * gh) (hd : IsDist gw V b d) {i : Nat} (hi : i < gw * gh) (h : i ≠ b) : routeL gw V d b i = i :: routeL gw V d b (nextN gw V d i) := by
  obtain ⟨_, _, _, _, he, hlt, _⟩ := nextN_ok hgw hV hd hi h
  have hst := st_pos V i (nextN gw V d i)
  have h0 := hd.nn (nextN gw V d i) (hV ▸ hlt)
  have e1 : (d i).toNat = (d (nextN gw V d i)).toNat + ((d i).toNat - 1 - (d (nextN gw V d i)).toNat) + 1 := by omega
  rw [routeL, e1, routeF, if_neg h, routeF_big hgw hV hd hlt]
end
end Go.Proofs.Ytmdkjohllinphaa
