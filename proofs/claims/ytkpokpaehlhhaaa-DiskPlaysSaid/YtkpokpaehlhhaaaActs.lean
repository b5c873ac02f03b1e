/- Acts that are handed in. -/
import Derived.Test.YtkpokpaehlhhaaaKeep
import Derived.Test.YtkpokpaehlhhaaaDisk9
import Derived.Deep.Slices
import Derived.Deep.Fields
import Derived.ChangeSame
namespace Go.Proofs.Ytkpokpaehlhhaaa.acts
open Go.ChangeShapes Go.WideShapes Go.ChangeAt Go.RowKit Go.Joins Go.Deep
set_option linter.unusedVariables false
set_option linter.unusedSimpArgs false
set_option maxRecDepth 100000

theorem bytes_of {H : Type} {enc : TypeId × Value → H} {W : World} {base : Nat} {held : Bool} {fuel : Nat} {v : Value} {x : DataW H × List MemPlace} (h : DataW.trod enc Try.prog W base (fun _ => true) held fuel 29 [v] = some x) :
    ∃ A n c bs, v = .slice A n c ∧ n = bs.length ∧ (∀ b ∈ bs, byteB b) ∧ (A = none → c = 0) ∧ Rd W A (c8 bs) := by
  rcases open_ints Try.underlying29 Try.underlying5 (by kernel_rfl) h with ⟨h1, _⟩ | ⟨a, len, cap, zs, h1, _, hl, _, hz, _, hc, hw⟩
  · injection h1 with h1
    subst h1
    exact ⟨_, _, _, [], rfl, rfl, (by intro b hb; cases hb), (fun _ => rfl), .inl rfl⟩
  · injection h1 with h1
    subst h1
    rw [if_pos rfl] at hz
    refine ⟨_, _, _, zs.take len, rfl, by simp; omega, fun b hb => ?_, (fun h => by cases h), ?_⟩
    · have := hw b (List.mem_of_mem_take hb)
      have h2 : 0 ≤ b ∧ b ≤ 255 := by simpa [Lit.wf, IntKind.min, IntKind.max, IntKind.signed, IntKind.bits] using this
      exact ⟨h2.1, by omega⟩
    · by_cases h0 : len = 0
      · subst h0; exact .inl rfl
      · have hc0 := hc 0 (by omega)
        have e0 : a.add 0 = a := rfl
        rw [e0] at hc0
        have hlt : a.block < W.heap.size := by
          rcases Nat.lt_or_ge a.block W.heap.size with h' | h'
          · exact h'
          · simp [World.cell?, Array.getElem?_eq_none h'] at hc0
        have hsp : a.spot = none := by
          unfold World.cell? at hc0
          split at hc0
          · split at hc0
            · cases hc0
            · rename_i h; simpa using h
          · cases hc0
        obtain ⟨b, o, sp⟩ := a
        dsimp only at hsp hlt
        subst hsp
        refine .inr ⟨b, o, rfl, hlt, fun j v hj => ?_⟩
        have h3 : j < (c8 (zs.take len)).length := (List.getElem?_eq_some_iff.1 hj).1
        rw [c8_length, List.length_take] at h3
        have h4 := hc j (by omega)
        rw [addr_add] at h4
        rw [h4, ← hj, c8, List.getElem?_map, List.getElem?_take, if_pos (by omega), List.getD_eq_getElem?_getD, List.getElem?_eq_getElem (by omega)]
        rfl


section
variable {H : Type} {enc : TypeId × Value → H} {P : Program} {w : World} {base : Nat} {spare : Nat → Bool} {held : Bool}
theorem open_slice_fields {t e : TypeId} {fs : Array Field} {fuel : Nat} {cs : List Value} {x : DataW H × List MemPlace} (ht : P.underlying t = some (.slice e)) (he : P.underlying e = some (.struct fs))
    (hone : oneCellFields P fs = true) (hC : P.cellsOf e = fs.size) (h : DataW.trod enc P w base spare held fuel t cs = some x) :
    (cs = [.slice none 0 0] ∧ x = (.nil, [])) ∨
    ∃ (a : Addr) (len cap m : Nat), cs = [.slice (some a) len cap] ∧ len ≤ cap ∧ cap ≤ maxLen ∧ m = (if spare a.block then cap else len) ∧
      ∀ i, i < m → ∃ n : Nat, ∀ (j : Nat) (f : Field), fs[j]? = some f → ∃ (v : Value) (y : DataW H × List MemPlace), w.cell? (a.add (i * fs.size + j)) = some v ∧ DataW.trod enc P w base spare held n f.type [v] = some y := by
  rcases open_slice ht h with h0 | ⟨a, len, cap, m, n, D, Pl, hcs, hb, hl, hm, hmm, hx, hi⟩
  · exact .inl h0
  · refine .inr ⟨a, len, cap, m, hcs, hl, hm, hmm, fun i him => ?_⟩
    obtain ⟨cs', hc, ht'⟩ := hi i him
    rw [hC] at hc
    obtain ⟨ys, n', hn', hy, hlen, hyl, hf⟩ := DataW.trod_struct he ht'
    obtain ⟨_, hcl, hat⟩ := World.cells?_some hc
    refine ⟨n', fun j f hj => ?_⟩
    obtain ⟨ho, hk⟩ := hone_of hone j f hj
    have hjl : j < fs.size := (Array.getElem?_eq_some_iff.1 hj).1
    have hcell := hat j hjl
    have hv : cs'[j]? = some (cs'[j]'(by omega)) := List.getElem?_eq_getElem (by omega)
    have h1 := hf j f hj
    rw [ho, hk] at h1
    have hone' : (cs'.drop j).take 1 = [cs'[j]'(by omega)] := by
      rw [List.drop_eq_getElem_cons (by omega)]
      rfl
    rw [hone'] at h1
    have hys : ys[j]? = some (ys[j]'(by omega)) := List.getElem?_eq_getElem (by omega)
    refine ⟨_, _, ?_, h1.trans hys⟩
    rw [← Go.Deep.add_add, hcell, hv]
end
theorem build_list {α : Type} {Q : Nat → α → Prop} : ∀ n : Nat, (∀ i, i < n → ∃ a, Q i a) → ∃ l : List α, l.length = n ∧ ∀ i a, l[i]? = some a → Q i a
  | 0, _ => ⟨[], rfl, fun i a h => by cases h⟩
  | n + 1, h => by
    obtain ⟨l, hl, hq⟩ := build_list n (fun i hi => h i (by omega))
    obtain ⟨a, ha⟩ := h n (by omega)
    refine ⟨l ++ [a], by simp [hl], fun i b hb => ?_⟩
    by_cases hi : i < n
    · rw [List.getElem?_append_left (by omega)] at hb; exact hq i b hb
    · have e : i = n := by
        have := (List.getElem?_eq_some_iff.1 hb).1
        simp at this; omega
      subst e
      rw [List.getElem?_append_right (by omega), hl] at hb
      simp at hb; subst hb; exact ha
theorem acts_of {H : Type} {enc : TypeId × Value → H} {W : World} {base : Nat} {held : Bool} {fuel : Nat} {v : Value} {x : DataW H × List MemPlace} (h : DataW.trod enc Try.prog W base (fun _ => true) held fuel 22 [v] = some x) :
    ∃ A c l, v = .slice A l.length c ∧ Acts W A l ∧ l.length ≤ 9223372036854775807 := by
  rcases open_slice_fields Try.underlying22 Try.underlying37 (by kernel_rfl) (by kernel_rfl) h with ⟨h1, _⟩ | ⟨a, len, cap, m, h1, hl, hc, hm, hf⟩
  · injection h1 with h1
    subst h1
    exact ⟨_, _, [], rfl, ⟨fun a ha => (by cases ha), .inl rfl⟩, by simp⟩
  · injection h1 with h1
    subst h1
    rw [if_pos rfl] at hm
    subst hm
    have hcl : ∀ {p : Addr} {u : Value}, W.cell? p = some u → p.spot = none ∧ p.block < W.heap.size := fun {p u} hp => by
      constructor
      · unfold World.cell? at hp
        split at hp
        · split at hp
          · cases hp
          · rename_i h; simpa using h
        · cases hp
      · rcases Nat.lt_or_ge p.block W.heap.size with h' | h'
        · exact h'
        · simp [World.cell?, Array.getElem?_eq_none h'] at hp
    by_cases h0 : len = 0
    · subst h0
      exact ⟨some a, _, [], rfl, ⟨fun a ha => (by cases ha), .inl rfl⟩, by simp⟩
    have hspot0 : a.spot = none := by
      obtain ⟨n, hj⟩ := hf 0 (by omega)
      obtain ⟨v0, y0, hc0, t0⟩ := hj 0 _ rfl
      have e0 : a.add (0 * 4 + 0) = a := rfl
      have := (hcl hc0).1
      exact this
    have each : ∀ i, i < len → ∃ d : ActD, d.ok ∧ ∃ A' c' , a.spot = none ∧ a.block < W.heap.size ∧ ActAt W a.block (a.off + i * 4) d A' c' := fun i hi => by
      obtain ⟨n, hj⟩ := hf i (by omega)
      obtain ⟨v0, y0, hc0, t0⟩ := hj 0 _ rfl
      obtain ⟨v1, y1, hc1, t1⟩ := hj 1 _ rfl
      obtain ⟨v2, y2, hc2, t2⟩ := hj 2 _ rfl
      obtain ⟨v3, y3, hc3, t3⟩ := hj 3 _ rfl
      obtain ⟨k, e0, _, w0⟩ := DataW.trod_int Try.underlying5 t0
      obtain ⟨file, e1, _, _⟩ := DataW.trod_int Try.underlying3 t1
      obtain ⟨N, e3, _, w3⟩ := DataW.trod_int Try.underlying2 t3
      obtain ⟨A', m', c', bs, rfl, hm, hbs, hcn, hR⟩ := bytes_of t2
      injection e0 with e0; injection e1 with e1; injection e3 with e3
      subst e0; subst e1; subst e3; subst hm
      have hk : 0 ≤ k ∧ k ≤ 255 := by simpa [Lit.wf, IntKind.min, IntKind.max, IntKind.signed, IntKind.bits] using w0
      have hN : N ≤ 9223372036854775807 := by
        have : -9223372036854775808 ≤ N ∧ N ≤ 9223372036854775807 := by simpa [Lit.wf, IntKind.min, IntKind.max, IntKind.signed, IntKind.bits] using w3
        exact this.2
      have hsp := (hcl hc0).1
      have hbl := (hcl hc0).2
      rw [add_block] at hbl
      obtain ⟨b, o, sp⟩ := a
      dsimp only at hspot0
      subst hspot0
      refine ⟨⟨k, file, bs, N⟩, ⟨hk, hbs, hN⟩, A', c', rfl, hbl, ⟨fun j u hu => ?_, hR⟩⟩
      have ea : ∀ j : Nat, (⟨b, o, none⟩ : Addr).add (i * 4 + j) = ⟨b, o + i * 4 + j, none⟩ := fun j => by rw [addr_add, Nat.add_assoc]
      match j, hu with
      | 0, hu => cases hu; rw [← ea]; exact hc0
      | 1, hu => cases hu; rw [← ea]; exact hc1
      | 2, hu => cases hu; rw [← ea]; exact hc2
      | 3, hu => cases hu; rw [← ea]; exact hc3
    obtain ⟨l, hlen, hq⟩ := build_list len each
    refine ⟨some a, _, l, by rw [hlen], ⟨fun d hd => ?_, ?_⟩, by unfold maxLen at hc; omega⟩
    · obtain ⟨i, hi, rfl⟩ := List.mem_iff_getElem.1 hd
      exact (hq i _ (List.getElem?_eq_getElem hi)).1
    · cases l with
      | nil => exact .inl rfl
      | cons d0 l =>
        obtain ⟨_, A', c', hsp, hbl, _⟩ := hq 0 d0 rfl
        obtain ⟨b, o, sp⟩ := a
        dsimp only at hsp
        subst hsp
        refine .inr ⟨b, o, rfl, hbl, fun i d hi => ?_⟩
        obtain ⟨_, A', c', _, _, h6⟩ := hq i d hi
        exact ⟨A', c', h6⟩
end Go.Proofs.Ytkpokpaehlhhaaa.acts
