/- Arguments, opened: numbers, lists of numbers, cells, rectangles. -/
import Derived.Test.YtbcgbcipigcbhaaKeep
import Derived.Test.YtbcgbcipigcbhaaGridB
namespace Go.Proofs.Ytbcgbcipigcbhaa.args
open Go.ChangeShapes Go.WideShapes Go.ChangeAt Go.RowKit Go.Joins
set_option linter.unusedVariables false
set_option linter.unusedSimpArgs false
set_option maxRecDepth 100000

theorem ints_of {H : Type} {enc : TypeId × Value → H} {W : World} {base : Nat} {held : Bool} {fuel : Nat} {v : Value} {x : DataW H × List MemPlace} (h : DataW.trod enc Try.prog W base (fun _ => true) held fuel 22 [v] = some x) :
    ∃ A c xs, v = .slice A xs.length c ∧ xs.length ≤ 9223372036854775807 ∧ (∀ b ∈ xs, -9223372036854775808 ≤ b ∧ b ≤ 9223372036854775807) ∧ Rd W A (ints xs) := by
  rcases open_ints Try.underlying22 Try.underlying2 (by kernel_rfl) h with ⟨h1, _⟩ | ⟨a, len, cap, zs, h1, _, hl, hmx, hz, _, hc, hw⟩
  · injection h1 with h1
    subst h1
    exact ⟨_, _, [], rfl, by simp, (by intro b hb; cases hb), .inl rfl⟩
  · injection h1 with h1
    subst h1
    rw [if_pos rfl] at hz
    have hlen : (zs.take len).length = len := by simp; omega
    refine ⟨some a, cap, zs.take len, by rw [hlen], by rw [hlen]; unfold maxLen at hmx; omega, fun b hb => ?_, ?_⟩
    · have := hw b (List.mem_of_mem_take hb)
      simpa [Lit.wf, IntKind.min, IntKind.max, IntKind.signed, IntKind.bits] using this
    · by_cases h0 : len = 0
      · subst h0; exact .inl rfl
      · have hc0 := hc 0 (by omega)
        have e0 : a.add 0 = a := rfl
        rw [e0] at hc0
        have hlt : a.block < W.heap.size := by
          rcases Nat.lt_or_ge a.block W.heap.size with h' | h'
          · exact h'
          · simp [World.cell?, Array.getElem?_eq_none h'] at hc0
        have hsp : a.spot = none := by
          unfold World.cell? at hc0
          split at hc0
          · split at hc0
            · cases hc0
            · rename_i h; simpa using h
          · cases hc0
        obtain ⟨b, o, sp⟩ := a
        dsimp only at hsp hlt
        subst hsp
        refine .inr ⟨b, o, rfl, hlt, fun j v hj => ?_⟩
        have h3 : j < (ints (zs.take len)).length := (List.getElem?_eq_some_iff.1 hj).1
        rw [ints_len, hlen] at h3
        have h4 := hc j (by omega)
        rw [addr_add] at h4
        rw [h4, ← hj, ints, List.getElem?_map, List.getElem?_take, if_pos (by omega), List.getD_eq_getElem?_getD, List.getElem?_eq_getElem (by omega)]
        rfl
theorem list_of {H : Type} {enc : TypeId × Value → H} {W : World} {base : Nat} {held : Bool} {v : Value} {d : DataW H} {p : List MemPlace} (hv : Value.okWide Try.prog W .any base 22 v) (h : DataW.Trod enc Try.prog W 0 (fun _ => true) held 22 v d p) :
    ∃ A c xs, v = .slice A xs.length c ∧ xs.length ≤ 9223372036854775807 ∧ (∀ b ∈ xs, -9223372036854775808 ≤ b ∧ b ≤ 9223372036854775807) ∧ Rd W A (ints xs) := by
  obtain ⟨A, n, c, rfl⟩ := okWide_slice Try.underlying22 hv
  obtain ⟨f, t⟩ := h
  exact ints_of t
theorem num_of {H : Type} {enc : TypeId × Value → H} {W : World} {base : Nat} {held : Bool} {v : Value} {d : DataW H} {p : List MemPlace} {t : TypeId} (ht : Try.prog.underlying t = some (.int .i64)) (hv : Value.okWide Try.prog W .any base t v) (h : DataW.Trod enc Try.prog W 0 (fun _ => true) held t v d p) :
    ∃ n : Int, v = .int .i64 n ∧ -9223372036854775808 ≤ n ∧ n ≤ 9223372036854775807 := by
  obtain ⟨n, rfl, _, _, w⟩ := open_int ht hv h
  have : -9223372036854775808 ≤ n ∧ n ≤ 9223372036854775807 := by simpa [Lit.wf, IntKind.min, IntKind.max, IntKind.signed, IntKind.bits] using w
  exact ⟨n, rfl, this.1, this.2⟩

/-! ### Cells, rectangles -/
def i64B (n : Int) : Prop := -9223372036854775808 ≤ n ∧ n ≤ 9223372036854775807
theorem cell_of {H : Type} {enc : TypeId × Value → H} {W : World} {base : Nat} {held : Bool} {v : Value} {d : DataW H} {p : List MemPlace} (hv : Value.okWide Try.prog W .any base 44 v) (h : DataW.Trod enc Try.prog W 0 (fun _ => true) held 44 v d p) :
    ∃ x y : Int, v = .agg #[.int .i64 x, .int .i64 y] ∧ i64B x ∧ i64B y := by
  obtain ⟨u0, u1, y0, y1, n, rfl, _, _, t0, t1⟩ := open_agg2 Try.underlying44 (by kernel_rfl) (by kernel_rfl) hv h
  obtain ⟨a, e0, _, w0⟩ := DataW.trod_int Try.underlying2 t0
  obtain ⟨b, e1, _, w1⟩ := DataW.trod_int Try.underlying2 t1
  injection e0 with e0; injection e1 with e1
  subst e0; subst e1
  exact ⟨a, b, rfl, by simpa [i64B, Lit.wf, IntKind.min, IntKind.max, IntKind.signed, IntKind.bits] using w0, by simpa [i64B, Lit.wf, IntKind.min, IntKind.max, IntKind.signed, IntKind.bits] using w1⟩
theorem rect_of {H : Type} {enc : TypeId × Value → H} {W : World} {base : Nat} {held : Bool} {v : Value} {d : DataW H} {p : List MemPlace} (hv : Value.okWide Try.prog W .any base 75 v) (h : DataW.Trod enc Try.prog W 0 (fun _ => true) held 75 v d p) :
    ∃ x0 y0 x1 y1 : Int, v = .agg #[.int .i64 x0, .int .i64 y0, .int .i64 x1, .int .i64 y1] ∧ i64B x0 ∧ i64B y0 ∧ i64B x1 ∧ i64B y1 := by
  obtain ⟨u0, u1, u2, u3, y0, y1, y2, y3, n, rfl, _, _, t0, t1, t2, t3⟩ := open_agg4 Try.underlying75 (by kernel_rfl) (by kernel_rfl) hv h
  obtain ⟨a, e0, _, w0⟩ := DataW.trod_int Try.underlying2 t0
  obtain ⟨b, e1, _, w1⟩ := DataW.trod_int Try.underlying2 t1
  obtain ⟨c, e2, _, w2⟩ := DataW.trod_int Try.underlying2 t2
  obtain ⟨f, e3, _, w3⟩ := DataW.trod_int Try.underlying2 t3
  injection e0 with e0; injection e1 with e1; injection e2 with e2; injection e3 with e3
  subst e0; subst e1; subst e2; subst e3
  exact ⟨a, b, c, f, rfl, by simpa [i64B, Lit.wf, IntKind.min, IntKind.max, IntKind.signed, IntKind.bits] using w0, by simpa [i64B, Lit.wf, IntKind.min, IntKind.max, IntKind.signed, IntKind.bits] using w1,
    by simpa [i64B, Lit.wf, IntKind.min, IntKind.max, IntKind.signed, IntKind.bits] using w2, by simpa [i64B, Lit.wf, IntKind.min, IntKind.max, IntKind.signed, IntKind.bits] using w3⟩
end Go.Proofs.Ytbcgbcipigcbhaa.args
