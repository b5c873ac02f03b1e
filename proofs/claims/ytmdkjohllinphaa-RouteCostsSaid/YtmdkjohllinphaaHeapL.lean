/- Heaps, the plain law: lists of jobs of which each is no cheaper than the one over it; what going up and going down keep. -/
import Derived.Test.YtmdkjohllinphaaSep
namespace Go.Proofs.Ytmdkjohllinphaa
set_option linter.unusedVariables false
set_option linter.unusedSimpArgs false

abbrev Job := Int × Nat
def jobAt (l : List Job) (i : Nat) : Job := l.getD i (0, 0)
def swapJ (l : List Job) (i j : Nat) : List Job := (l.set i (jobAt l j)).set j (jobAt l i)
theorem swapJ_len (l : List Job) (i j : Nat) : (swapJ l i j).length = l.length := by simp [swapJ]
theorem jobAt_get {l : List Job} {i : Nat} (h : i < l.length) : l[i]? = some (jobAt l i) := by
  rw [jobAt, List.getD_eq_getElem?_getD, List.getElem?_eq_getElem h]; rfl
theorem jobAt_of {l : List Job} {i : Nat} {x : Job} (h : l[i]? = some x) : jobAt l i = x := by
  rw [jobAt, List.getD_eq_getElem?_getD, h]; rfl
theorem jobAt_swap {l : List Job} {i j : Nat} (hi : i < l.length) (hj : j < l.length) (k : Nat) : jobAt (swapJ l i j) k = if k = j then jobAt l i else if k = i then jobAt l j else jobAt l k := by
  unfold swapJ
  by_cases e1 : k = j
  · rw [if_pos e1]; exact jobAt_of (by rw [e1, List.getElem?_set, if_pos rfl, List.length_set, if_pos hj])
  · rw [if_neg e1]
    by_cases e2 : k = i
    · rw [if_pos e2]; exact jobAt_of (by rw [e2, List.getElem?_set, if_neg (by rw [e2] at e1; exact fun h => e1 h.symm), List.getElem?_set, if_pos rfl, if_pos hi])
    · rw [if_neg e2]
      show (List.set _ _ _).getD k (0, 0) = l.getD k (0, 0)
      rw [List.getD_eq_getElem?_getD, List.getD_eq_getElem?_getD, List.getElem?_set, if_neg (fun h => e1 h.symm), List.getElem?_set, if_neg (fun h => e2 h.symm)]
theorem mem_jobAt {l : List Job} {x : Job} : x ∈ l ↔ ∃ k, k < l.length ∧ jobAt l k = x := by
  constructor
  · intro h
    obtain ⟨k, hk⟩ := List.mem_iff_getElem?.1 h
    exact ⟨k, (List.getElem?_eq_some_iff.1 hk).1, jobAt_of hk⟩
  · rintro ⟨k, hk, rfl⟩
    exact List.mem_of_getElem? (jobAt_get hk)
theorem mem_swapJ {l : List Job} {i j : Nat} (hi : i < l.length) (hj : j < l.length) (x : Job) : x ∈ swapJ l i j ↔ x ∈ l := by
  have half : ∀ (l : List Job), i < l.length → j < l.length → ∀ x, x ∈ swapJ l i j → x ∈ l := by
    intro l hi hj x hx
    obtain ⟨k, hk, he⟩ := mem_jobAt.1 hx
    rw [swapJ_len] at hk
    rw [jobAt_swap hi hj] at he
    split at he
    · exact mem_jobAt.2 ⟨i, hi, he⟩
    · split at he
      · exact mem_jobAt.2 ⟨j, hj, he⟩
      · exact mem_jobAt.2 ⟨k, hk, he⟩
  refine ⟨half l hi hj x, fun hx => ?_⟩
  obtain ⟨k, hk, he⟩ := mem_jobAt.1 hx
  refine mem_jobAt.2 ?_
  rw [swapJ_len]
  by_cases e1 : k = i
  · exact ⟨j, hj, by rw [jobAt_swap hi hj, if_pos rfl, ← e1]; exact he⟩
  · by_cases e2 : k = j
    · refine ⟨i, hi, ?_⟩
      rw [jobAt_swap hi hj]
      by_cases e3 : i = j
      · rw [if_pos e3, e3, ← e2]; exact he
      · rw [if_neg e3, if_pos rfl, ← e2]; exact he
    · exact ⟨k, hk, by rw [jobAt_swap hi hj, if_neg e2, if_neg e1]; exact he⟩
def HeapN (l : List Job) (n : Nat) : Prop := ∀ k, 0 < k → k < n → (jobAt l ((k - 1) / 2)).1 ≤ (jobAt l k).1
structure UpInv (l : List Job) (j : Nat) : Prop where
  lt : j < l.length
  ok : ∀ k, 0 < k → k < l.length → k ≠ j → (jobAt l ((k - 1) / 2)).1 ≤ (jobAt l k).1
  kids : 0 < j → ∀ k, 0 < k → k < l.length → (k - 1) / 2 = j → (jobAt l ((j - 1) / 2)).1 ≤ (jobAt l k).1
structure DnInv (l : List Job) (n i : Nat) : Prop where
  le : n ≤ l.length
  ok : ∀ k, 0 < k → k < n → (k - 1) / 2 ≠ i → (jobAt l ((k - 1) / 2)).1 ≤ (jobAt l k).1
  kids : 0 < i → ∀ k, 0 < k → k < n → (k - 1) / 2 = i → (jobAt l ((i - 1) / 2)).1 ≤ (jobAt l k).1
section
variable {l : List Job} {i j n : Nat}
theorem UpInv.push {x : Job} (h : HeapN l l.length) : UpInv (l ++ [x]) l.length := by
  have e : ∀ k, k < l.length → jobAt (l ++ [x]) k = jobAt l k := fun k hk => by unfold jobAt; rw [List.getD_eq_getElem?_getD, List.getD_eq_getElem?_getD, List.getElem?_append_left hk]
  refine ⟨by simp, fun k h0 hk hne => ?_, fun _ k h0 hk hp => ?_⟩
  · simp at hk
    rw [e k (by omega), e _ (by omega)]
    exact h k h0 (by omega)
  · simp at hk; omega
theorem UpInv.stop (h : UpInv l j) (hs : j = 0 ∨ (jobAt l ((j - 1) / 2)).1 ≤ (jobAt l j).1) : HeapN l l.length := by
  intro k h0 hk
  by_cases e : k = j
  · subst e
    rcases hs with e | e
    · omega
    · exact e
  · exact h.ok k h0 hk e
theorem UpInv.up (h : UpInv l j) (h0 : 0 < j) (hlt : (jobAt l j).1 < (jobAt l ((j - 1) / 2)).1) : UpInv (swapJ l ((j - 1) / 2) j) ((j - 1) / 2) := by
  have hj := h.lt
  have hi : (j - 1) / 2 < l.length := by omega
  have hs := jobAt_swap hi hj
  generalize ei : (j - 1) / 2 = i at *
  refine ⟨by rw [swapJ_len]; exact hi, fun k k0 hk hne => ?_, fun i0 k k0 hk hp => ?_⟩
  · rw [swapJ_len] at hk
    rw [hs, hs]
    by_cases ek : k = j
    · subst ek; rw [if_pos rfl, if_neg (by omega), if_pos (by omega)]; omega
    · rw [if_neg ek, if_neg hne]
      by_cases e1 : (k - 1) / 2 = j
      · rw [if_pos e1]; have := h.kids h0 k k0 hk e1; rw [ei] at this; exact this
      · rw [if_neg e1]
        by_cases e2 : (k - 1) / 2 = i
        · rw [if_pos e2]
          have := h.ok k k0 hk ek
          rw [e2] at this; omega
        · rw [if_neg e2]; exact h.ok k k0 hk ek
  · rw [swapJ_len] at hk
    rw [hs, hs, if_neg (show (i - 1) / 2 ≠ j by omega), if_neg (show (i - 1) / 2 ≠ i by omega)]
    have h1 := h.ok i i0 hi (by omega)
    by_cases ek : k = j
    · rw [if_pos ek]; exact h1
    · rw [if_neg ek, if_neg (by omega)]
      have := h.ok k k0 hk ek
      rw [hp] at this; omega
theorem DnInv.stop (h : DnInv l n i) (hs : ∀ k, 0 < k → k < n → (k - 1) / 2 = i → (jobAt l i).1 ≤ (jobAt l k).1) : HeapN l n := by
  intro k h0 hk
  by_cases e : (k - 1) / 2 = i
  · rw [e]; exact hs k h0 hk e
  · exact h.ok k h0 hk e
theorem DnInv.down (h : DnInv l n i) (hj : j < n) (hj0 : 0 < j) (hp : (j - 1) / 2 = i) (hlt : (jobAt l j).1 < (jobAt l i).1) (hmin : ∀ k, 0 < k → k < n → (k - 1) / 2 = i → (jobAt l j).1 ≤ (jobAt l k).1) : DnInv (swapJ l i j) n j := by
  have hle := h.le
  have hs := jobAt_swap (l := l) (i := i) (j := j) (by omega) (by omega)
  refine ⟨by rw [swapJ_len]; exact hle, fun k k0 hk hne => ?_, fun _ k k0 hk hpk => ?_⟩
  · rw [hs, hs]
    rw [if_neg hne]
    by_cases ek : k = j
    · subst ek; rw [if_pos hp, if_pos rfl]; omega
    · rw [if_neg ek]
      by_cases e1 : (k - 1) / 2 = i
      · rw [if_pos e1, if_neg (by omega)]; exact hmin k k0 hk e1
      · rw [if_neg e1]
        by_cases e2 : k = i
        · rw [if_pos e2]
          subst e2
          exact h.kids k0 j hj0 hj hp
        · rw [if_neg e2]; exact h.ok k k0 hk e1
  · rw [hs, hs, hp, if_neg (by omega), if_pos rfl, if_neg (by omega), if_neg (by omega)]
    have := h.ok k k0 hk (by omega)
    rw [hpk] at this; exact this
theorem HeapN.min (h : HeapN l n) : ∀ k, k < n → (jobAt l 0).1 ≤ (jobAt l k).1 := by
  intro k
  induction k using Nat.strongRecOn with
  | _ k ih =>
    intro hk
    by_cases e : k = 0
    · subst e; exact Int.le_refl _
    · have h1 := ih ((k - 1) / 2) (by omega) (by omega)
      have h2 := h k (by omega) hk
      omega
theorem DnInv.pop (h : HeapN l l.length) (h0 : 0 < l.length) : DnInv (swapJ l 0 (l.length - 1)) (l.length - 1) 0 := by
  have hs := jobAt_swap (l := l) (i := 0) (j := l.length - 1) (by omega) (by omega)
  refine ⟨by rw [swapJ_len]; omega, fun k k0 hk hne => ?_, fun e => by omega⟩
  rw [hs, hs, if_neg (by omega), if_neg hne, if_neg (by omega), if_neg (by omega)]
  exact h k k0 (by omega)
/-- what is left when the last one is taken off -/
theorem take_last {m : Nat} (hm : l.length = m + 1) (x : Job) : x ∈ l ↔ x = jobAt l m ∨ x ∈ l.take m := by
  rw [mem_jobAt]
  constructor
  · rintro ⟨k, hk, rfl⟩
    by_cases e : k = m
    · exact .inl (by rw [e])
    · refine .inr (List.mem_of_getElem? (i := k) ?_)
      rw [List.getElem?_take, if_pos (by omega)]
      exact jobAt_get hk
  · rintro (rfl | hx)
    · exact ⟨m, by omega, rfl⟩
    · exact mem_jobAt.1 (List.mem_of_mem_take hx)
theorem jobAt_take {m k : Nat} (h : k < m) : jobAt (l.take m) k = jobAt l k := by
  unfold jobAt; rw [List.getD_eq_getElem?_getD, List.getD_eq_getElem?_getD, List.getElem?_take, if_pos h]
theorem HeapN.take {m : Nat} (h : HeapN l m) : HeapN (l.take m) (l.take m).length := by
  intro k k0 hk
  have hk' : k < m := by have := List.length_take (i := m) (l := l); omega
  rw [jobAt_take (by omega), jobAt_take hk']
  exact h k k0 hk'
theorem jobAt_app {x : Job} {k : Nat} (h : k < l.length) : jobAt (l ++ [x]) k = jobAt l k := by unfold jobAt; rw [List.getD_eq_getElem?_getD, List.getD_eq_getElem?_getD, List.getElem?_append_left h]
end
end Go.Proofs.Ytmdkjohllinphaa
