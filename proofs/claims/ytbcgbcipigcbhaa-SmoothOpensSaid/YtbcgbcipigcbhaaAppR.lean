/- Regions that draw their order and append one element to a row: the parts of memory as the class. -/
import Derived.Test.YtbcgbcipigcbhaaSep
import Derived.Test.YtbcgbcipigcbhaaTri
namespace Go.Proofs.Ytbcgbcipigcbhaa
open Go.RowKit
set_option linter.unusedVariables false
set_option linter.unusedSimpArgs false

def CS (F : Nat → Prop) (W : World) (L : List HA) (i el k n : Nat) (xs ys : List Value) (wq : World) : List Value → Prop
  | [] => St F W wq L
  | [v] => ∃ A', v = .slice A' 1 1 ∧ St F W wq (.row el k A' 1 1 ys :: L)
  | [u, _] => ∃ A' c' L', u = .slice A' (n + 1) c' ∧ setO L i (.row el k A' (n + 1) c' (xs ++ ys)) = some L' ∧ St F W wq L'
  | _ => False
section
variable {F : Nat → Prop} {W : World} {L : List HA} {i el k n : Nat} {xs ys : List Value} {wq w' : World} {τ : List Value}
theorem CS.gr (h : CS F W L i el k n xs ys wq τ) (g : Gr wq w') : CS F W L i el k n xs ys w' τ := by
  match τ, h with
  | [], h => exact St.gr (show St F W wq L from h) g
  | [v], ⟨A', e, h⟩ => exact ⟨A', e, h.gr g⟩
  | [u, v], ⟨A', c', L', e, hs, h⟩ => exact ⟨A', c', L', e, hs, h.gr g⟩
theorem setO_other : ∀ (L L' : List HA) (i j : Nat) (h : HA), setO L i h = some L' → j ≠ i → getO L' j = getO L j := by
  intro L
  induction L with
  | nil => intro L' i j h hs _; cases i <;> simp [setO] at hs
  | cons a L ih =>
    intro L' i j h hs hj
    cases i with
    | zero =>
      simp only [setO, Option.some.injEq] at hs
      subst hs
      cases j with
      | zero => exact absurd rfl hj
      | succ j => rfl
    | succ i =>
      simp only [setO] at hs
      cases hM : setO L i h with
      | none => rw [hM] at hs; cases hs
      | some M =>
        rw [hM] at hs
        obtain rfl := Option.some.inj hs
        cases j with
        | zero => rfl
        | succ j => exact ih M i j h hM (fun e => hj (by omega))
theorem CS.ok (h : CS F W L i el k n xs ys wq τ) {j : Nat} (hj : j ≠ i) {x : HA} (hx : getO L j = some x) : x.ok wq := by
  match τ, h with
  | [], h => exact St.ok (show St F W wq L from h) hx
  | [v], ⟨A', e, h⟩ => exact h.ok (i := j + 1) hx
  | [u, v], ⟨A', c', L', e, hs, h⟩ => exact h.ok (i := j) ((setO_other _ _ _ _ _ hs hj).trans hx)
theorem CS.frw (h : CS F W L i el k n xs ys wq τ) : Fr F W wq := by
  match τ, h with
  | [], h => exact St.fr (show St F W wq L from h)
  | [v], ⟨A', e, h⟩ => exact h.fr
  | [u, v], ⟨A', c', L', e, hs, h⟩ => exact h.fr
end
section
variable {P : Program} {e : Nat → Value} {d : Option Tmp} {ty : TypeId} {ps : String} {af : Array Edge} {F : Nat → Prop} {W wq : World} {L : List HA}
theorem to_buildCS {t el : TypeId} {i k n : Nat} {parts : List (Nat × Operand)} {z : Value} {l0 l xs : List Value} (hq : CS F W L i el k n xs l wq []) (hu : P.underlying t = some (.slice el)) (hs : ∀ w, (sizeOf el).run P w = .ok k w) (hz : ∀ w, (zeroValue el).run P w = .ok z w) (hk : z.cells.toList.length = k) (hk0 : Nat.beq (1 * k) 0 = false) (hn : Nat.ble (1 * k) 16777216 = true)
    (h1 : lay (fun i => some (i * k, k)) ((List.replicate 1 z.cells.toList).flatten) (evp e parts) = some l0) (h2 : fzl l0 = some l) (hl : Nat.beq l.length (1 * k) = true) :
    opTo P e ⟨d, .buildSlice t 1 parts.toArray, ty, ps, af, none⟩ wq (fun v w' => CS F W L i el k n xs l w' [v]) := by
  refine to_w (op_buildSlice hu hs hz hk hk0 hn h1 h2) ?_
  have S : St F W wq L := hq
  refine ⟨_, rfl, S.push (Gr.alloc _ _) (h := .row el k (some ⟨wq.heap.size, 0, none⟩) 1 1 l) (Row.of_blk (Blk.new _ _ _) (Nat.eq_of_beq_eq_true hl) (by unfold maxLen; omega)) (fun g hg => ?_)⟩
  have : wq.heap.size = g := by injection hg
  omega
theorem to_appCS {i : Nat} {s x : Operand} {t el bytes k n c : Nat} {A : Option Addr} {z v : Value} {xs ys : List Value} (hq : CS F W L i el k n xs ys wq [v]) (hi : getO L i = some (.row el k A n c xs)) (hf : ∀ h, ∃ L', setO L i h = some L')
    (hu : P.underlying t = some (.slice el)) (hI : (P.info? el).map (fun i => (i.zero, i.size, i.bytes)) = some (some z, k, bytes)) (hz : Nat.beq z.cells.size k = true) (hk : Nat.blt 0 k = true)
    (hs : ev e s = .slice A n c) (hx : ev e x = v) (hm : ys.length = 1 * k) (h1 : (ys.all fun v => v.oneCell') = true) (hb : (n + 1) * (bytes + 1) ≤ 140737488355328) :
    opTo P e ⟨d, .call ⟨.builtin .append, #[s, x], #[t, t]⟩, ty, ps, af, none⟩ wq (fun u w' => CS F W L i el k n xs ys w' [u, v]) := by
  obtain ⟨A6, rfl, S6⟩ := hq
  have hR : Rd wq A6 ys := (S6.row (i := 0) rfl).rd
  have S : St F W wq L := S6.drop 1
  obtain ⟨inf, hinf, hz0, hz1, hz2⟩ := info_parts hI
  have hk0 : 0 < k := Nat.le_of_ble_eq_true hk
  have hz' := Nat.eq_of_beq_eq_true hz
  have hb1 : (n + 1) * bytes ≤ 140737488355328 := Nat.le_trans (Nat.mul_le_mul_left _ (by omega)) hb
  have hb2 : n + 1 ≤ 140737488355328 := Nat.le_trans (Nat.le_mul_of_pos_right _ (by omega)) hb
  have hRow := S.row hi
  have hpos : 0 < ys.length := by omega
  obtain ⟨b, o, rfl⟩ := hR.someA hpos
  obtain ⟨v', w', hrun, ho, hg, _, hob⟩ := run_append_own_at (P := P) wq 0 t ty el inf z k bytes hu hinf hz0 hz1 hz2 hz' hk0 (.slice A n c) n xs hRow ⟨b, o, none⟩ 1 1 ys hm
    (fun j u hu => by rw [addr_add]; exact hR.cell rfl hu) (fun u hu => List.all_eq_true.1 h1 u hu) (by unfold maxLen; omega) hb1 (by omega)
  obtain ⟨A', c', rfl⟩ := Own.form ho
  have hRow' : Row w' el k A' (n + 1) c' (xs ++ ys) := ho
  obtain ⟨L', hL'⟩ := hf (.row el k A' (n + 1) c' (xs ++ ys))
  refine to_w (v := .slice A' (n + 1) c') (w' := w') ?_ ⟨A', c', L', rfl, hL', ?_⟩
  · simp [execOp, resolve, invoke, builtin, hs, hx, hrun]
  · refine S.set hi hL' (Fr.of_grown (F := fun g => ownA A g) hg (fun g e => ?_)) (fun g e => .inl e) hRow' (fun g e => ?_)
    · cases A with
      | none => cases e
      | some a => exact e
    · have e' : (Value.slice A' (n + 1) c').ownBlock = some g := by
        cases A' with
        | none => cases e
        | some a => exact e
      rw [e'] at hob
      rcases hob with h | h
      · left
        cases A with
        | none => cases h
        | some a => exact h.symm
      · injection h with h; right; omega
end
