/- Acts in memory; are they more than are gone through? -/
import Derived.Test.YtkpokpaehlhhaaaDisk8
namespace Go.Proofs.Ytkpokpaehlhhaaa
open Go.RowKit
set_option linter.unusedVariables false
set_option linter.unusedSimpArgs false
set_option maxRecDepth 100000

def ActD.cells (a : ActD) (A : Option Addr) (c : Nat) : List Value := [.int .u8 a.kind, .int .i64 a.file, .slice A a.bs.length c, .int .i64 a.n]
/-- An act that lies at a place. -/
def ActAt (w : World) (b o : Nat) (a : ActD) (A : Option Addr) (c : Nat) : Prop := (∀ j v, (a.cells A c)[j]? = some v → w.cell? ⟨b, o + j, none⟩ = some v) ∧ Rd w A (c8 a.bs)
def Acts (w : World) (A : Option Addr) (l : List ActD) : Prop := (∀ a ∈ l, a.ok) ∧ (l = [] ∨ ∃ b o, A = some ⟨b, o, none⟩ ∧ b < w.heap.size ∧ ∀ i a, l[i]? = some a → ∃ A' c', ActAt w b (o + i * 4) a A' c')
theorem cell_gr {w w' : World} (g : Gr w w') {a : Addr} {v : Value} (h : w.cell? a = some v) : w'.cell? a = some v := by
  have hlt : a.block < w.heap.size := by
    rcases Nat.lt_or_ge a.block w.heap.size with h' | h'
    · exact h'
    · unfold World.cell? at h; rw [Array.getElem?_eq_none h'] at h; cases h
  rw [World.cell?_of_block (g.block _ hlt)]
  exact h
theorem Acts.gr {w w' : World} {A : Option Addr} {l : List ActD} (h : Acts w A l) (g : Gr w w') : Acts w' A l := by
  obtain ⟨h1, h2⟩ := h
  refine ⟨h1, ?_⟩
  rcases h2 with h2 | ⟨b, o, hA, hb, h2⟩
  · exact .inl h2
  · refine .inr ⟨b, o, hA, Nat.lt_of_lt_of_le hb g.le, fun i a hi => ?_⟩
    obtain ⟨A', c', h3, h4⟩ := h2 i a hi
    exact ⟨A', c', fun j v hj => cell_gr g (h3 j v hj), h4.gr g⟩
theorem Acts.at_ {w : World} {A : Option Addr} {l : List ActD} (h : Acts w A l) {k : Nat} {a : ActD} (ha : l[k]? = some a) : ∃ b o A' c', A = some ⟨b, o, none⟩ ∧ ActAt w b (o + k * 4) a A' c' := by
  rcases h.2 with h2 | ⟨b, o, hA, hb, h2⟩
  · rw [h2] at ha; cases ha
  · obtain ⟨A', c', h3⟩ := h2 k a ha
    exact ⟨b, o, A', c', hA, h3⟩
def longB (l : List ActD) : Bool := decide (60 < l.length) || l.any fun a => decide (100 < a.bs.length)

theorem long_E (A : Option Addr) (c : Nat) (l : List ActD) (hl : l.length ≤ 9223372036854775807) (W : World) (hA : Acts W A l) : Fn Try.prog 9 [.slice A l.length c] W (RetG (.bool (longB l)) W) := by
  have G0 := Gr.refl W
  by_cases h60 : 60 < l.length
  · refine Fn_enter Try.func9 rfl Try.results9 Try.ntmps9 (by kernel_rfl) (by kernel_rfl) ?_
    repeat refine cw_seq ?_
    refine cw_region ?_
    refine rw_v (op_pure rfl) ?_
    first | refine rw_end ?_ | (refine rw_nil ?_; show CW _ _ _ _ _ _) | refine rw_nil ?_
    repeat refine cw_seq ?_
    refine cw_region ?_
    refine rw_v (op_pure rfl) ?_
    refine rw_v (op_len Try.underlying22 rfl) ?_
    first | refine rw_v (op_b (b := true) rfl (decide_eq_true (by omega))) ?_ | refine rw_v (op_b (b := false) rfl (decide_eq_false (by omega))) ?_ | refine rw_v (op_pure rfl) ?_
    first | refine rw_end ?_ | (refine rw_nil ?_; show CW _ _ _ _ _ _) | refine rw_nil ?_
    repeat refine cw_seq ?_
    refine cw_true rfl ?_
    repeat refine cw_seq ?_
    refine cw_region ?_
    refine rw_v (op_pure rfl) ?_
    first | refine rw_end ?_ | (refine rw_nil ?_; show CW _ _ _ _ _ _) | refine rw_nil ?_
    refine cw_ret ?_
    repeat first | refine ret_then ?_ | refine ret_inb ?_
    exact res1 rfl ⟨by simp [longB, h60], G0⟩
  refine Fn_enter Try.func9 rfl Try.results9 Try.ntmps9 (by kernel_rfl) (by kernel_rfl) ?_
  repeat refine cw_seq ?_
  refine cw_region ?_
  refine rw_v (op_pure rfl) ?_
  first | refine rw_end ?_ | (refine rw_nil ?_; show CW _ _ _ _ _ _) | refine rw_nil ?_
  repeat refine cw_seq ?_
  refine cw_region ?_
  refine rw_v (op_pure rfl) ?_
  refine rw_v (op_len Try.underlying22 rfl) ?_
  first | refine rw_v (op_b (b := true) rfl (decide_eq_true (by omega))) ?_ | refine rw_v (op_b (b := false) rfl (decide_eq_false (by omega))) ?_ | refine rw_v (op_pure rfl) ?_
  first | refine rw_end ?_ | (refine rw_nil ?_; show CW _ _ _ _ _ _) | refine rw_nil ?_
  repeat refine cw_seq ?_
  refine cw_false rfl ?_
  refine cw_skip ?_
  try show CW _ _ _ _ _ _
  repeat refine cw_seq ?_
  refine cw_region ?_
  refine rw_v (op_pure rfl) ?_
  first | refine rw_end ?_ | (refine rw_nil ?_; show CW _ _ _ _ _ _) | refine rw_nil ?_
  repeat refine cw_seq ?_
  refine cw_block ?_
  refine cw_loop (fun m e w => ∃ k : Nat, k + m = l.length ∧ SL e [(0, .slice A l.length c), (3, .int .i64 k)] ∧ (∀ i a, i < k → l[i]? = some a → ¬ 100 < a.bs.length) ∧ Gr W w) l.length
    ⟨0, by omega, ⟨rfl, rfl, trivial⟩, fun i a hi => by omega, G0⟩ ?_
  rintro m e w ⟨k, hkm, hsl, hI, G2⟩
  rw [hsl.fold]
  repeat refine cw_seq ?_
  refine cw_region ?_
  refine rw_v (op_pure rfl) ?_
  refine rw_v (op_pure rfl) ?_
  refine rw_v (op_len Try.underlying22 rfl) ?_
  refine rw_v (op_pure rfl) ?_
  first | refine rw_end ?_ | (refine rw_nil ?_; show CW _ _ _ _ _ _) | refine rw_nil ?_
  repeat refine cw_seq ?_
  refine cw_cond rfl (fun hc => ?_) (fun hc => ?_)
  · refine cw_skip ?_
    try show CW _ _ _ _ _ _
    have hc : k < l.length := by simpa using hc
    obtain ⟨a, ha⟩ : ∃ a, l[k]? = some a := ⟨l[k], List.getElem?_eq_getElem hc⟩
    obtain ⟨b, o, A', c', rfl, hcell, hrd⟩ := (hA.gr G2).at_ ha
    have hcc : w.cell? ⟨b, o + k * 4 + 2, none⟩ = some (.slice A' a.bs.length c') := hcell 2 _ rfl
    repeat refine cw_seq ?_
    refine cw_block ?_
    repeat refine cw_seq ?_
    refine cw_region ?_
    refine rw_v (op_pure rfl) ?_
    refine rw_v (op_pure rfl) ?_
    refine rw_v (op_indexAddrS Try.underlying22 Try.sizeOf37 rfl rfl (by omega) (by omega) (o' := o + k * 4) (by simp)) ?_
    refine rw_v (op_fieldAddr Try.underlying37 rfl Try.sizeOf29 rfl rfl) ?_
    refine rw_r (op_load Try.underlying29 rfl rfl hcc) ?_
    refine rw_v (op_len Try.underlying29 rfl) ?_
    refine rw_v (op_pure rfl) ?_
    first | refine rw_end ?_ | (refine rw_nil ?_; show CW _ _ _ _ _ _) | refine rw_nil ?_
    repeat refine cw_seq ?_
    refine cw_cond rfl (fun hlong => ?_) (fun hlong => ?_)
    · repeat refine cw_seq ?_
      refine cw_region ?_
      refine rw_v (op_pure rfl) ?_
      first | refine rw_end ?_ | (refine rw_nil ?_; show CW _ _ _ _ _ _) | refine rw_nil ?_
      have hlong : 100 < a.bs.length := by
        have h : (100 : Int) < a.bs.length := by simpa using hlong
        omega
      refine cw_ret ?_
      repeat first | refine ret_then ?_ | refine ret_inb ?_
      have e1 : longB l = true := by
        unfold longB
        rw [Bool.or_eq_true]
        exact .inr (List.any_eq_true.2 ⟨a, List.mem_of_getElem? ha, by simpa using hlong⟩)
      exact res1 rfl ⟨by rw [e1], G2⟩
    · refine cw_skip ?_
      try show CW _ _ _ _ _ _
      have hlong : ¬ 100 < a.bs.length := by
        have h : ¬ (100 : Int) < a.bs.length := by simpa using hlong
        omega
      repeat refine cw_seq ?_
      refine cw_region ?_
      refine rw_v (op_pure rfl) ?_
      refine rw_v (op_rng rfl (by omega)) ?_
      refine rw_v (op_pure rfl) ?_
      first | refine rw_end ?_ | (refine rw_nil ?_; show CW _ _ _ _ _ _) | refine rw_nil ?_
      refine ⟨m - 1, by omega, k + 1, by omega, ⟨rfl, ie (by omega), trivial⟩, fun i a' hi ha' => ?_, G2⟩
      by_cases hik : i = k
      · subst hik
        rw [ha] at ha'
        cases ha'
        exact hlong
      · exact hI i a' (by omega) ha'
  · refine cw_exit ?_
    repeat first | refine exit_then ?_ | refine exit_inb ?_
    have hk : k = l.length := by
      have : ¬ k < l.length := by simpa using hc
      omega
    have e1 : longB l = false := by
      unfold longB
      rw [Bool.or_eq_false_iff]
      refine ⟨by simpa using h60, List.any_eq_false.2 fun a ha => ?_⟩
      obtain ⟨i, hi, rfl⟩ := List.mem_iff_getElem.1 ha
      simpa using hI i _ (by omega) (List.getElem?_eq_getElem hi)
    show CW _ _ _ _ _ _
    repeat refine cw_seq ?_
    refine cw_region ?_
    refine rw_v (op_pure rfl) ?_
    first | refine rw_end ?_ | (refine rw_nil ?_; show CW _ _ _ _ _ _) | refine rw_nil ?_
    refine cw_ret ?_
    repeat first | refine ret_then ?_ | refine ret_inb ?_
    exact res1 rfl ⟨by rw [e1], G2⟩
end Go.Proofs.Ytkpokpaehlhhaaa
