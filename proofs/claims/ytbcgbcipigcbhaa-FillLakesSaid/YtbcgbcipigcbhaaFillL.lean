/- How high water stands, the plain law: levels are told by what holds between neighbours; what a walk from the shores inwards, and one by rounds, come to. -/
import Derived.Test.YtbcgbcipigcbhaaDist
namespace Go.Proofs.Ytbcgbcipigcbhaa
set_option linter.unusedVariables false
set_option linter.unusedSimpArgs false

def bordB (gw n i : Nat) : Bool := decide (i % gw = 0) || decide (i % gw + 1 = gw) || decide (i < gw) || decide (n ≤ i + gw)
structure IsLev (gw gh : Nat) (V : List Int) (L : Nat → Int) (rk : Nat → Nat) : Prop where
  bord : ∀ i, i < gw * gh → bordB gw (gw * gh) i = true → L i = V.getD i 0
  ge : ∀ i, i < gw * gh → V.getD i 0 ≤ L i
  le : ∀ i j, i < gw * gh → j < gw * gh → bordB gw (gw * gh) i = false → Side gw i j → L i ≤ max (V.getD i 0) (L j)
  sup : ∀ i, i < gw * gh → bordB gw (gw * gh) i = false → ∃ j, j < gw * gh ∧ Side gw i j ∧ rk j < rk i ∧ L i = max (V.getD i 0) (L j)
  top : ∀ i, i < gw * gh → rk i < gw * gh
theorem IsLev.ind {gw gh : Nat} {V : List Int} {L : Nat → Int} {rk : Nat → Nat} (h : IsLev gw gh V L rk) {P : Nat → Prop} (h0 : ∀ i, i < gw * gh → bordB gw (gw * gh) i = true → P i)
    (h1 : ∀ i j, i < gw * gh → j < gw * gh → bordB gw (gw * gh) i = false → Side gw i j → L i = max (V.getD i 0) (L j) → P j → P i) : ∀ i, i < gw * gh → P i := by
  have key : ∀ (n i : Nat), i < gw * gh → rk i < n → P i := by
    intro n
    induction n with
    | zero => intro i _ hn; omega
    | succ n ih =>
      intro i hi hn
      cases hb : bordB gw (gw * gh) i with
      | true => exact h0 i hi hb
      | false =>
        obtain ⟨j, hj, s, hr, he⟩ := h.sup i hi hb
        exact h1 i j hi hj hb s he (ih j hj (by omega))
  exact fun i hi => key (rk i + 1) i hi (by omega)
theorem IsLev.bound {gw gh : Nat} {V : List Int} {L : Nat → Int} {rk : Nat → Nat} (h : IsLev gw gh V L rk) {m : Int} (hm : ∀ i, i < gw * gh → V.getD i 0 ≤ m) : ∀ i, i < gw * gh → L i ≤ m :=
  h.ind (P := fun i => L i ≤ m) (fun i hi hb => by rw [h.bord i hi hb]; exact hm i hi) (fun i j hi hj _ _ he hp => by have := hm i hi; omega)
/-- what is filled to its levels -/
theorem IsLev.again {gw gh : Nat} {V U : List Int} {L L' : Nat → Int} {rk rk' : Nat → Nat} (h : IsLev gw gh V L rk) (hU : ∀ i, i < gw * gh → U.getD i 0 = L i) (h' : IsLev gw gh U L' rk') : ∀ i, i < gw * gh → L' i = L i := by
  intro i hi
  have h1 := h'.ge i hi
  rw [hU i hi] at h1
  have h2 : L' i ≤ L i := h.ind (P := fun i => L' i ≤ L i) (fun i hi hb => by rw [h'.bord i hi hb, hU i hi]; exact Int.le_refl _) (fun i j hi hj hb s he hp => by
    have := h'.le i j hi hj hb s
    rw [hU i hi] at this
    omega) i hi
  omega

/-! ### From the shores inwards -/
def cntB (n : Nat) (f : Nat → Bool) : Nat := ((List.range n).filter f).length
def updB (f : Nat → Bool) (k : Nat) : Nat → Bool := fun i => if i = k then true else f i
def updR (f : Nat → Nat) (k v : Nat) : Nat → Nat := fun i => if i = k then v else f i
theorem cntB_le (n : Nat) (f : Nat → Bool) : cntB n f ≤ n := by
  have := List.length_filter_le f (List.range n)
  simpa [cntB] using this
theorem cntB_upd {f : Nat → Bool} {k : Nat} (hf : f k = false) : ∀ n, cntB n (updB f k) = cntB n f + (if k < n then 1 else 0)
  | 0 => by simp [cntB]
  | n + 1 => by
    have ih := cntB_upd hf n
    unfold cntB at *
    rw [List.range_succ, List.filter_append, List.filter_append, List.length_append, List.length_append, ih]
    by_cases e : n = k
    · subst e
      simp [updB, hf]
    · simp only [List.filter_cons, List.filter_nil, show updB f k n = f n by simp [updB, e]]
      split <;> split <;> split <;> simp <;> omega
structure FL (gw gh : Nat) (V : List Int) (kn : Nat → Bool) (lv : Nat → Int) (rk : Nat → Nat) (Q : List (Int × Nat)) (X : Nat → Nat → Prop) : Prop where
  ent : ∀ x ∈ Q, x.2 < gw * gh ∧ kn x.2 = true ∧ x.1 = lv x.2
  bord : ∀ i, i < gw * gh → kn i = true → bordB gw (gw * gh) i = true → lv i = V.getD i 0
  ge : ∀ i, i < gw * gh → kn i = true → V.getD i 0 ≤ lv i
  le : ∀ i j, i < gw * gh → j < gw * gh → kn i = true → kn j = true → bordB gw (gw * gh) i = false → Side gw i j → lv i ≤ max (V.getD i 0) (lv j)
  sup : ∀ i, i < gw * gh → kn i = true → bordB gw (gw * gh) i = false → ∃ j, j < gw * gh ∧ kn j = true ∧ Side gw i j ∧ rk j < rk i ∧ lv i = max (V.getD i 0) (lv j)
  top : ∀ i, i < gw * gh → kn i = true → rk i < cntB (gw * gh) kn
  front : ∀ p j, p < gw * gh → j < gw * gh → kn p = true → kn j = false → Side gw p j → ¬ X p j → (lv p, p) ∈ Q
  mono : ∀ p, p < gw * gh → kn p = true → ∀ x ∈ Q, lv p ≤ max (V.getD p 0) x.1
section
variable {gw gh : Nat} {V : List Int} {kn : Nat → Bool} {lv : Nat → Int} {rk : Nat → Nat} {Q Q' : List (Int × Nat)} {X : Nat → Nat → Prop}
theorem FL.perm (h : FL gw gh V kn lv rk Q X) (hp : ∀ x, x ∈ Q' ↔ x ∈ Q) : FL gw gh V kn lv rk Q' X :=
  ⟨fun x hx => h.ent x ((hp x).1 hx), h.bord, h.ge, h.le, h.sup, h.top, fun p j a b c d e f => (hp _).2 (h.front p j a b c d e f), fun p a b x hx => h.mono p a b x ((hp x).1 hx)⟩
/-- the border's cells, one by one -/
structure FB (gw gh : Nat) (V : List Int) (k : Nat) (kn : Nat → Bool) (lv : Nat → Int) (rk : Nat → Nat) (Q : List (Int × Nat)) : Prop where
  fl : FL gw gh V kn lv rk Q (fun _ _ => False)
  is : ∀ i, i < gw * gh → (kn i = true ↔ i < k ∧ bordB gw (gw * gh) i = true)
  all : ∀ i, i < gw * gh → kn i = true → (lv i, i) ∈ Q
theorem FB.start : FB gw gh V 0 (fun _ => false) (fun _ => 0) (fun _ => 0) [] :=
  ⟨⟨fun x hx => (by cases hx), fun i _ h => (by cases h), fun i _ h => (by cases h), fun i j _ _ h => (by cases h), fun i _ h => (by cases h), fun i _ h => (by cases h), fun p j _ _ h => (by cases h), fun p _ h => (by cases h)⟩,
    fun i _ => ⟨fun h => (by cases h), fun h => by omega⟩, fun i _ h => (by cases h)⟩
theorem FB.pass {k : Nat} (h : FB gw gh V k kn lv rk Q) (hk : k < gw * gh) (hb : bordB gw (gw * gh) k = false) : FB gw gh V (k + 1) kn lv rk Q := by
  refine ⟨h.fl, fun i hi => (h.is i hi).trans ⟨fun ⟨a, b⟩ => ⟨by omega, b⟩, fun ⟨a, b⟩ => ?_⟩, h.all⟩
  rcases Nat.lt_or_ge i k with e | e
  · exact ⟨e, b⟩
  · obtain rfl : i = k := by omega
    rw [hb] at b; cases b
theorem FB.lay {k : Nat} (h : FB gw gh V k kn lv rk Q) (hk : k < gw * gh) (hb : bordB gw (gw * gh) k = true) (hp : ∀ x, x ∈ Q' ↔ x = (V.getD k 0, k) ∨ x ∈ Q) :
    kn k = false ∧ FB gw gh V (k + 1) (updB kn k) (updI lv k (V.getD k 0)) (updR rk k (cntB (gw * gh) kn)) Q' := by
  have hkn : kn k = false := by
    cases e : kn k with
    | false => rfl
    | true => have := ((h.is k hk).1 e).1; omega
  have hl : ∀ i, i ≠ k → updI lv k (V.getD k 0) i = lv i := fun i e => by unfold updI; rw [if_neg e]
  have hlk : updI lv k (V.getD k 0) k = V.getD k 0 := by unfold updI; rw [if_pos rfl]
  have hu : ∀ i, i ≠ k → updB kn k i = kn i := fun i e => by unfold updB; rw [if_neg e]
  have huk : updB kn k k = true := by unfold updB; rw [if_pos rfl]
  have hbo : ∀ i, i < gw * gh → updB kn k i = true → bordB gw (gw * gh) i = true := fun i hi hx => by
    by_cases e : i = k
    · rw [e]; exact hb
    · rw [hu i e] at hx; exact ((h.is i hi).1 hx).2
  have hall : ∀ i, i < gw * gh → updB kn k i = true → (updI lv k (V.getD k 0) i, i) ∈ Q' := fun i hi hx => by
    by_cases e : i = k
    · rw [e, hlk]; exact (hp _).2 (.inl rfl)
    · rw [hu i e] at hx; rw [hl i e]; exact (hp _).2 (.inr (h.all i hi hx))
  have heq : ∀ i, i < gw * gh → updB kn k i = true → updI lv k (V.getD k 0) i = V.getD i 0 := fun i hi hx => by
    by_cases e : i = k
    · rw [e, hlk]
    · rw [hu i e] at hx; rw [hl i e]; exact h.fl.bord i hi hx ((h.is i hi).1 hx).2
  refine ⟨hkn, ⟨fun x hx => ?_, fun i hi hx _ => heq i hi hx, fun i hi hx => by rw [heq i hi hx]; exact Int.le_refl _, fun i j hi hj hx _ hn => ?_, fun i hi hx hn => ?_, fun i hi hx => ?_, fun p j hp hj hx _ _ _ => hall p hp hx, fun p hp hx x _ => by rw [heq p hp hx]; omega⟩, fun i hi => ?_, hall⟩
  · rcases (hp x).1 hx with rfl | hx
    · exact ⟨hk, huk, hlk.symm⟩
    · obtain ⟨a, b, c⟩ := h.fl.ent x hx
      have e : x.2 ≠ k := by intro e; rw [e, hkn] at b; cases b
      exact ⟨a, by rw [hu _ e]; exact b, by rw [hl _ e]; exact c⟩
  · have := hbo i hi hx; rw [hn] at this; cases this
  · have := hbo i hi hx; rw [hn] at this; cases this
  · have h2 := cntB_upd hkn (gw * gh)
    rw [if_pos hk] at h2
    rw [h2]
    unfold updR
    by_cases e : i = k
    · rw [if_pos e]; omega
    · rw [if_neg e]; rw [hu i e] at hx; have := h.fl.top i hi hx; omega
  · by_cases e : i = k
    · rw [e]; exact ⟨fun _ => ⟨by omega, hb⟩, fun _ => huk⟩
    · rw [hu i e]; exact (h.is i hi).trans ⟨fun ⟨a, b⟩ => ⟨by omega, b⟩, fun ⟨a, b⟩ => ⟨by omega, b⟩⟩

/-- behind a spot that came out: what of its neighbours isn't reached yet is spared -/
structure FLM (gw gh : Nat) (V : List Int) (kn : Nat → Bool) (lv : Nat → Int) (rk : Nat → Nat) (Q : List (Int × Nat)) (cur : Nat) (todo : List Nat) : Prop where
  fl : FL gw gh V kn lv rk Q (fun p j => p = cur ∧ j ∈ todo)
  cur_lt : cur < gw * gh
  cur_kn : kn cur = true
  topc : ∀ p, p < gw * gh → kn p = true → lv p ≤ max (V.getD p 0) (lv cur)
  low : ∀ x ∈ Q, lv cur ≤ x.1
  brd : ∀ i, i < gw * gh → bordB gw (gw * gh) i = true → kn i = true
theorem FL.take {x : Int × Nat} {todo : List Nat} (h : FL gw gh V kn lv rk (x :: Q) (fun _ _ => False)) (hbr : ∀ i, i < gw * gh → bordB gw (gw * gh) i = true → kn i = true) (hmin : ∀ y ∈ Q, x.1 ≤ y.1)
    (htodo : ∀ j, j < gw * gh → Side gw x.2 j → kn j = false → j ∈ todo) : FLM gw gh V kn lv rk Q x.2 todo := by
  obtain ⟨hlt, hkn, hxl⟩ := h.ent x List.mem_cons_self
  refine ⟨⟨fun y hy => h.ent y (List.mem_cons_of_mem _ hy), h.bord, h.ge, h.le, h.sup, h.top, fun p j hp hj hk hn s hX => ?_, fun p a b y hy => h.mono p a b y (List.mem_cons_of_mem _ hy)⟩, hlt, hkn, fun p hp hk => by rw [← hxl]; exact h.mono p hp hk x List.mem_cons_self, fun y hy => by rw [← hxl]; exact hmin y hy, hbr⟩
  rcases List.mem_cons.1 (h.front p j hp hj hk hn s (fun f => f)) with e | e
  · have ep : p = x.2 := by rw [← e]
    exact absurd ⟨ep, htodo j hj (ep ▸ s) hn⟩ hX
  · exact e
theorem FLM.known {cur j : Nat} {todo : List Nat} (h : FLM gw gh V kn lv rk Q cur (j :: todo)) (hj : kn j = true) : FLM gw gh V kn lv rk Q cur todo := by
  refine ⟨⟨h.fl.ent, h.fl.bord, h.fl.ge, h.fl.le, h.fl.sup, h.fl.top, fun p k hp hk hpk hn s hX => h.fl.front p k hp hk hpk hn s ?_, h.fl.mono⟩, h.cur_lt, h.cur_kn, h.topc, h.low, h.brd⟩
  rintro ⟨e, hm⟩
  rcases List.mem_cons.1 hm with rfl | hm
  · rw [hj] at hn; cases hn
  · exact hX ⟨e, hm⟩
theorem FLM.reach {cur j : Nat} {todo : List Nat} (h : FLM gw gh V kn lv rk Q cur (j :: todo)) (hj : j < gw * gh) (s : Side gw cur j) (hkn : kn j = false) (hp : ∀ x, x ∈ Q' ↔ x = (max (V.getD j 0) (lv cur), j) ∨ x ∈ Q) :
    FLM gw gh V (updB kn j) (updI lv j (max (V.getD j 0) (lv cur))) (updR rk j (cntB (gw * gh) kn)) Q' cur todo := by
  have hl : ∀ i, i ≠ j → updI lv j (max (V.getD j 0) (lv cur)) i = lv i := fun i e => by unfold updI; rw [if_neg e]
  have hlj : updI lv j (max (V.getD j 0) (lv cur)) j = max (V.getD j 0) (lv cur) := by unfold updI; rw [if_pos rfl]
  have hu : ∀ i, i ≠ j → updB kn j i = kn i := fun i e => by unfold updB; rw [if_neg e]
  have huj : updB kn j j = true := by unfold updB; rw [if_pos rfl]
  have hr : ∀ i, i ≠ j → updR rk j (cntB (gw * gh) kn) i = rk i := fun i e => by unfold updR; rw [if_neg e]
  have hrj : updR rk j (cntB (gw * gh) kn) j = cntB (gw * gh) kn := by unfold updR; rw [if_pos rfl]
  have hcj : cur ≠ j := by rintro rfl; rw [h.cur_kn] at hkn; cases hkn
  have hnb : bordB gw (gw * gh) j = false := by
    cases e : bordB gw (gw * gh) j with
    | false => rfl
    | true => rw [h.brd j hj e] at hkn; cases hkn
  have hkne : ∀ i, kn i = true → i ≠ j := fun i hi e => by rw [e, hkn] at hi; cases hi
  have hcnt := cntB_upd hkn (gw * gh)
  rw [if_pos hj] at hcnt
  -- a known neighbour of j stands no lower than the one that came out
  have hnear : ∀ p, p < gw * gh → kn p = true → Side gw p j → lv cur ≤ lv p := fun p hp hpk s' => by
    by_cases e : p = cur
    · rw [e]; exact Int.le_refl _
    · exact h.low _ (h.fl.front p j hp hj hpk hkn s' (fun f => e f.1))
  refine ⟨⟨fun x hx => ?_, fun i hi hx hb => ?_, fun i hi hx => ?_, fun i k hi hk hx hy hb s' => ?_, fun i hi hx hb => ?_, fun i hi hx => ?_, fun p k hp' hk hx hn s' hX => ?_, fun p hp' hx x hxQ => ?_⟩, h.cur_lt, by rw [hu _ hcj]; exact h.cur_kn, fun p hp' hx => ?_, fun x hx => ?_, fun i hi hb => ?_⟩
  · rcases (hp x).1 hx with rfl | hx
    · exact ⟨hj, huj, hlj.symm⟩
    · obtain ⟨a, b, c⟩ := h.fl.ent x hx
      have e := hkne _ b
      exact ⟨a, by rw [hu _ e]; exact b, by rw [hl _ e]; exact c⟩
  · have e : i ≠ j := by rintro rfl; rw [hnb] at hb; cases hb
    rw [hu i e] at hx; rw [hl i e]; exact h.fl.bord i hi hx hb
  · by_cases e : i = j
    · rw [e, hlj]; omega
    · rw [hu i e] at hx; rw [hl i e]; exact h.fl.ge i hi hx
  · by_cases ei : i = j
    · by_cases ek : k = j
      · rw [ei, ek]; omega
      · rw [hu k ek] at hy; rw [ei, hlj, hl k ek]
        have := hnear k hk hy (ei ▸ s'.symm)
        omega
    · rw [hu i ei] at hx; rw [hl i ei]
      by_cases ek : k = j
      · rw [ek, hlj]; have := h.topc i hi hx; omega
      · rw [hu k ek] at hy; rw [hl k ek]; exact h.fl.le i k hi hk hx hy hb s'
  · by_cases e : i = j
    · refine ⟨cur, h.cur_lt, by rw [hu _ hcj]; exact h.cur_kn, e ▸ s.symm, ?_, ?_⟩
      · rw [e, hrj, hr _ hcj]; exact h.fl.top cur h.cur_lt h.cur_kn
      · rw [e, hlj, hl _ hcj]
    · rw [hu i e] at hx
      obtain ⟨k, k1, k2, k3, k4, k5⟩ := h.fl.sup i hi hx hb
      have ek := hkne k k2
      exact ⟨k, k1, by rw [hu k ek]; exact k2, k3, by rw [hr k ek, hr i e]; exact k4, by rw [hl i e, hl k ek]; exact k5⟩
  · rw [hcnt]
    by_cases e : i = j
    · rw [e, hrj]; omega
    · rw [hu i e] at hx; rw [hr i e]; have := h.fl.top i hi hx; omega
  · have ek : k ≠ j := by rintro rfl; rw [huj] at hn; cases hn
    rw [hu k ek] at hn
    by_cases ep : p = j
    · rw [ep, hlj]; exact (hp _).2 (.inl rfl)
    · rw [hu p ep] at hx; rw [hl p ep]
      refine (hp _).2 (.inr (h.fl.front p k hp' hk hx hn s' ?_))
      rintro ⟨e, hm⟩
      rcases List.mem_cons.1 hm with e2 | hm
      · exact ek e2
      · exact hX ⟨e, hm⟩
  · rcases (hp x).1 hxQ with rfl | hxQ
    · show _ ≤ max _ (max (V.getD j 0) (lv cur))
      by_cases ep : p = j
      · rw [ep, hlj]; omega
      · rw [hu p ep] at hx; rw [hl p ep]; have := h.topc p hp' hx; omega
    · by_cases ep : p = j
      · rw [ep, hlj]; have := h.low x hxQ; omega
      · rw [hu p ep] at hx; rw [hl p ep]; exact h.fl.mono p hp' hx x hxQ
  · rw [hl cur hcj]
    by_cases ep : p = j
    · rw [ep, hlj]; omega
    · rw [hu p ep] at hx; rw [hl p ep]; exact h.topc p hp' hx
  · rw [hl cur hcj]
    rcases (hp x).1 hx with rfl | hx
    · show _ ≤ max (V.getD j 0) (lv cur); omega
    · exact h.low x hx
  · by_cases e : i = j
    · rw [e]; exact huj
    · rw [hu i e]; exact h.brd i hi hb
theorem FLM.done {cur : Nat} (h : FLM gw gh V kn lv rk Q cur []) : FL gw gh V kn lv rk Q (fun _ _ => False) :=
  ⟨h.fl.ent, h.fl.bord, h.fl.ge, h.fl.le, h.fl.sup, h.fl.top, fun p k hp hk hpk hn s _ => h.fl.front p k hp hk hpk hn s (by rintro ⟨_, hm⟩; cases hm), h.fl.mono⟩
theorem FL.finish (hgw : 0 < gw) (hgh : 0 < gh) (hbr : ∀ i, i < gw * gh → bordB gw (gw * gh) i = true → kn i = true) (h : FL gw gh V kn lv rk [] (fun _ _ => False)) : IsLev gw gh V lv rk := by
  have hpos : 0 < gw * gh := Nat.mul_pos hgw hgh
  have hall : ∀ i, i < gw * gh → kn i = true := grid_conn hgw (P := fun i => kn i = true) (fun i j hi hj s hk => by
    cases e : kn j with
    | true => rfl
    | false => exact absurd (h.front i j hi hj hk e s (fun f => f)) (by simp)) hpos (hbr 0 hpos (by simp [bordB]))
  refine ⟨fun i hi hb => h.bord i hi (hall i hi) hb, fun i hi => h.ge i hi (hall i hi), fun i j hi hj hb s => h.le i j hi hj (hall i hi) (hall j hj) hb s, fun i hi hb => ?_, fun i hi => ?_⟩
  · obtain ⟨j, a, _, b, c, d⟩ := h.sup i hi (hall i hi) hb
    exact ⟨j, a, b, c, d⟩
  · have := h.top i hi (hall i hi)
    have := cntB_le (gw * gh) kn
    omega
end

/-! ### Levels that fall by rounds -/
structure BL (gw gh : Nat) (V : List Int) (L : Nat → Int) (rk : Nat → Nat) (r : Nat) (fell : Bool) (E : Nat → Nat → Prop) (o : Nat → Int) : Prop where
  ge : ∀ i, i < gw * gh → L i ≤ o i
  bord : ∀ i, i < gw * gh → bordB gw (gw * gh) i = true → o i = V.getD i 0
  fixd : ∀ i, i < gw * gh → rk i ≤ r → o i = L i
  rel : ∀ i j, i < gw * gh → j < gw * gh → Side gw i j → E i j → bordB gw (gw * gh) j = true ∨ rk j ≤ r → o i ≤ max (V.getD i 0) (L j)
  quiet : fell = false → ∀ i j, i < gw * gh → j < gw * gh → Side gw i j → E i j → o i ≤ max (V.getD i 0) (o j)
section
variable {gw gh r : Nat} {V : List Int} {L o : Nat → Int} {rk : Nat → Nat} {fell : Bool} {E E' : Nat → Nat → Prop}
def lev0 (gw n : Nat) (V : List Int) (i : Nat) : Int := if bordB gw n i = true then V.getD i 0 else 2147483647
theorem BL.start (h : IsLev gw gh V L rk) (hV : ∀ i, i < gw * gh → V.getD i 0 ≤ 2147483647) : BL gw gh V L rk 0 false (fun _ _ => False) (lev0 gw (gw * gh) V) := by
  refine ⟨fun i hi => ?_, fun i hi hb => by unfold lev0; rw [if_pos hb], fun i hi hr => ?_, fun _ _ _ _ _ e => e.elim, fun _ _ _ _ _ _ e => e.elim⟩
  · unfold lev0
    split
    · rename_i hb; rw [h.bord i hi hb]; exact Int.le_refl _
    · exact h.bound hV i hi
  · cases hb : bordB gw (gw * gh) i with
    | true => unfold lev0; rw [if_pos hb, h.bord i hi hb]
    | false => obtain ⟨j, _, _, h3, _⟩ := h.sup i hi hb; omega
theorem BL.weaken (h : BL gw gh V L rk r fell E o) (hE : ∀ p j, p < gw * gh → j < gw * gh → Side gw p j → E' p j → E p j) : BL gw gh V L rk r fell E' o :=
  ⟨h.ge, h.bord, h.fixd, fun p j a b s e => h.rel p j a b s (hE p j a b s e), fun f p j a b s e => h.quiet f p j a b s (hE p j a b s e)⟩
theorem BL.enter (hgw : 0 < gw) {i : Nat} (hi : i < gw * gh) (h : BL gw gh V L rk r fell (fun p _ => p < i) o) : BL gw gh V L rk r fell (EdgT i (nearN gw (gw * gh) i)) o :=
  h.weaken fun p j hp hj s e => by
    rcases e with e | ⟨rfl, e⟩
    · exact e
    · exact absurd ((nearN_mem hgw hi).2 ⟨hj, s⟩) e
theorem BL.leave {i : Nat} (h : BL gw gh V L rk r fell (EdgT i []) o) : BL gw gh V L rk r fell (fun p _ => p < i + 1) o :=
  h.weaken fun p j hp hj s (e : p < i + 1) => by
    by_cases e1 : p = i
    · exact .inr ⟨e1, by simp⟩
    · exact .inl (by omega)
theorem BL.stay (hl : IsLev gw gh V L rk) {i j : Nat} {todo : List Nat} (h : BL gw gh V L rk r fell (EdgT i (j :: todo)) o) (hle : o i ≤ max (V.getD i 0) (o j)) : BL gw gh V L rk r fell (EdgT i todo) o := by
  have hE : ∀ p k, EdgT i todo p k → EdgT i (j :: todo) p k ∨ (p = i ∧ k = j) := fun p k e => by
    rcases e with e | ⟨e, hm⟩
    · exact .inl (.inl e)
    · by_cases ek : k = j
      · exact .inr ⟨e, ek⟩
      · exact .inl (.inr ⟨e, by simp [ek, hm]⟩)
  refine ⟨h.ge, h.bord, h.fixd, fun p k hp hk s e hr => ?_, fun f p k hp hk s e => ?_⟩
  · rcases hE p k e with e | ⟨rfl, rfl⟩
    · exact h.rel p k hp hk s e hr
    · have : o k = L k := by
        rcases hr with hb | hr
        · rw [h.bord k hk hb, hl.bord k hk hb]
        · exact h.fixd k hk hr
      rw [← this]; exact hle
  · rcases hE p k e with e | ⟨rfl, rfl⟩
    · exact h.quiet f p k hp hk s e
    · exact hle
theorem BL.fall (hl : IsLev gw gh V L rk) {i j : Nat} {todo : List Nat} (hi : i < gw * gh) (hj : j < gw * gh) (s : Side gw i j) (h : BL gw gh V L rk r fell (EdgT i (j :: todo)) o) (hlt : max (V.getD i 0) (o j) < o i) :
    BL gw gh V L rk r true (EdgT i todo) (updI o i (max (V.getD i 0) (o j))) := by
  have hself : updI o i (max (V.getD i 0) (o j)) i = max (V.getD i 0) (o j) := by unfold updI; rw [if_pos rfl]
  have hoth : ∀ k, k ≠ i → updI o i (max (V.getD i 0) (o j)) k = o k := fun k hk => by unfold updI; rw [if_neg hk]
  have hnb : bordB gw (gw * gh) i = false := by
    cases e : bordB gw (gw * gh) i with
    | false => rfl
    | true => have := h.bord i hi e; omega
  have hge : L i ≤ max (V.getD i 0) (o j) := by have := hl.le i j hi hj hnb s; have := h.ge j hj; omega
  have hE : ∀ p k, EdgT i todo p k → EdgT i (j :: todo) p k ∨ (p = i ∧ k = j) := fun p k e => by
    rcases e with e | ⟨e, hm⟩
    · exact .inl (.inl e)
    · by_cases ek : k = j
      · exact .inr ⟨e, ek⟩
      · exact .inl (.inr ⟨e, by simp [ek, hm]⟩)
  refine ⟨fun k hk => ?_, fun k hk hb => ?_, fun k hk hr => ?_, fun p k hp hk s' e hr => ?_, fun f => by cases f⟩
  · by_cases e : k = i
    · subst e; rw [hself]; exact hge
    · rw [hoth k e]; exact h.ge k hk
  · have e : k ≠ i := by rintro rfl; rw [hnb] at hb; cases hb
    rw [hoth k e]; exact h.bord k hk hb
  · by_cases e : k = i
    · subst e; have := h.fixd k hk hr; omega
    · rw [hoth k e]; exact h.fixd k hk hr
  · by_cases e2 : p = i
    · subst e2
      rw [hself]
      rcases hE p k e with e | ⟨_, rfl⟩
      · have := h.rel p k hp hk s' e hr; omega
      · have : o k = L k := by
          rcases hr with hb | hr
          · rw [h.bord k hk hb, hl.bord k hk hb]
          · exact h.fixd k hk hr
        rw [this]; exact Int.le_refl _
    · rw [hoth p e2]
      rcases hE p k e with e | ⟨e, _⟩
      · exact h.rel p k hp hk s' e hr
      · exact absurd e e2
theorem BL.still (hl : IsLev gw gh V L rk) (h : BL gw gh V L rk r false (fun p _ => p < gw * gh) o) : ∀ j, j < gw * gh → o j = L j := by
  intro j hj
  have h1 : o j ≤ L j := hl.ind (P := fun i => o i ≤ L i) (fun i hi hb => by rw [h.bord i hi hb, hl.bord i hi hb]; exact Int.le_refl _) (fun i j hi hj hb s he hp => by
    have := h.quiet rfl i j hi hj s hi
    omega) j hj
  have h2 := h.ge j hj
  omega
theorem BL.next (hl : IsLev gw gh V L rk) (h : BL gw gh V L rk r fell (fun p _ => p < gw * gh) o) : BL gw gh V L rk (r + 1) false (fun _ _ => False) o := by
  refine ⟨h.ge, h.bord, fun i hi hr => ?_, fun _ _ _ _ _ e => e.elim, fun _ _ _ _ _ _ e => e.elim⟩
  cases hb : bordB gw (gw * gh) i with
  | true => rw [h.bord i hi hb, hl.bord i hi hb]
  | false =>
    obtain ⟨j, hj, s, hrj, he⟩ := hl.sup i hi hb
    have h1 := h.rel i j hi hj s hi (.inr (by omega))
    have h2 := h.ge i hi
    omega
theorem BL.last (hl : IsLev gw gh V L rk) (h : BL gw gh V L rk r fell E o) (hr : gw * gh ≤ r) : ∀ j, j < gw * gh → o j = L j := fun j hj => h.fixd j hj (by have := hl.top j hj; omega)
end
end Go.Proofs.Ytbcgbcipigcbhaa
