/- More operations: literals of structs and slices, calls, append, slices, make. -/
import Derived.Test.YtbcgbcipigcbhaaMem
import Derived.Maps.AppendAt
import Derived.Deep.AppendLies
namespace Go.Proofs.Ytbcgbcipigcbhaa
open Go.RowKit
set_option linter.unusedVariables false
set_option linter.unusedSimpArgs false

/-- Parts laid into cells: as 'fill' does, over lists. -/
def lay : (Nat → Option (Nat × Nat)) → List Value → List (Nat × Value) → Option (List Value)
  | _, cells, [] => some cells
  | pl, cells, (i, v) :: rest => match pl i with
    | some (off, size) => match Nat.beq v.cells.toList.length size, Nat.ble (off + size) cells.length with
      | true, true => lay pl (cells.take off ++ v.cells.toList ++ cells.drop (off + size)) rest
      | _, _ => none
    | none => none
theorem foldl_set (vs : List Value) : ∀ (k off : Nat) (cells : List Value), off + k + vs.length ≤ cells.length → ((vs.zipIdx k).foldl (fun (cs : Array Value) (p : Value × Nat) => cs.setIfInBounds (off + p.2) p.1) cells.toArray).toList = cells.take (off + k) ++ vs ++ cells.drop (off + k + vs.length) := by
  induction vs with
  | nil => intro k off cells h; simp
  | cons v vs ih =>
    intro k off cells h
    simp only [List.length_cons] at h
    simp only [List.zipIdx_cons, List.foldl_cons, List.setIfInBounds_toArray]
    rw [ih (k + 1) off _ (by simp; omega)]
    rw [List.take_set, List.drop_set_of_lt (by omega)]
    have h1 : off + (k + 1) = (off + k) + 1 := by omega
    have h3 : (cells.take (off + k + 1)).set (off + k) v = cells.take (off + k) ++ [v] := by
      rw [List.take_succ_eq_append_getElem (by omega), List.set_append_right _ _ (by simp; omega)]
      have h5 : off + k - (cells.take (off + k)).length = 0 := by simp; omega
      rw [h5]; rfl
    rw [h1, h3]
    have h4 : off + k + 1 + vs.length = off + k + (vs.length + 1) := by omega
    rw [h4]
    simp
theorem fill_of_lay {pl : Nat → Option (Nat × Nat)} : ∀ {parts : List (Nat × Value)} {cells l : List Value}, lay pl cells parts = some l → Instr.fill pl cells.toArray parts = some l.toArray
  | [], cells, l, h => by simp only [lay, Option.some.injEq] at h; subst h; rfl
  | (i, v) :: rest, cells, l, h => by
    simp only [lay] at h
    unfold Instr.fill
    cases hp : pl i with
    | none => rw [hp] at h; cases h
    | some os =>
      obtain ⟨off, size⟩ := os
      rw [hp] at h
      simp only at h ⊢
      split at h
      · rename_i h1 h2
        have h1 := Nat.eq_of_beq_eq_true h1
        have h2 := Nat.le_of_ble_eq_true h2
        have hs : v.cells.size = size := by rw [← h1]; simp
        have hnot : ¬ (v.cells.size ≠ size ∨ off + v.cells.size > cells.toArray.size) := by simp [hs]; omega
        simp only [Bool.or_eq_true, decide_eq_true_eq, if_neg hnot]
        have hf := foldl_set v.cells.toList 0 off cells (by rw [h1]; omega)
        have hz : v.cells.zipIdx = (v.cells.toList.zipIdx).toArray := Array.toList_inj.1 (by rw [Array.toList_zipIdx])
        have e1 : (v.cells.zipIdx.foldl (fun (cs : Array Value) (p : Value × Nat) => cs.setIfInBounds (off + p.2) p.1) cells.toArray) = (cells.take off ++ v.cells.toList ++ cells.drop (off + size)).toArray := by
          rw [hz, ← Array.foldl_toList, ← Array.toList_inj]
          simp only [Nat.add_zero] at hf
          rw [hf, h1]
        have e2 : Array.foldl (fun (cs : Array Value) (x : Value × Nat) => match x with | (c, j) => cs.setIfInBounds (off + j) c) cells.toArray v.cells.zipIdx = (cells.take off ++ v.cells.toList ++ cells.drop (off + size)).toArray := e1
        rw [e2]
        exact fill_of_lay h
      · cases h

section
variable {P : Program} {ops : Array Oper} {Q : (Nat → Value) → World → Prop} {e : Nat → Value} {w : World} {rest : List Oper}
variable {d : Option Tmp} {ty : TypeId} {ps : String} {af : Array Edge} {C : World → Prop} {Qq : (Nat → Value) → Prop}
def evp (e : Nat → Value) : List (Nat × Operand) → List (Nat × Value)
  | [] => []
  | (i, x) :: r => (i, ev e x) :: evp e r
theorem evp_eq (e : Nat → Value) : ∀ parts : List (Nat × Operand), parts.map (fun p => (p.1, ev e p.2)) = evp e parts
  | [] => rfl
  | p :: r => by simp only [List.map_cons, evp, evp_eq e r]
/-- a struct's literal -/
theorem op_build {t : TypeId} {parts : List (Nat × Operand)} {fs : Array Field} {z : Value} {pl : List (Nat × Nat)} {l0 l : List Value} (hu : P.underlying t = some (.struct fs)) (hz : ∀ w, (zeroValue t).run P w = .ok z w)
    (hp : ∀ w, (fs.mapM fun f => (Prod.mk f.offset <$> sizeOf f.type : Sem (Nat × Nat))).run P w = .ok pl.toArray w)
    (h1 : lay (fun i => pl[i]?) z.cells.toList (evp e parts) = some l0) (h2 : fzl l0 = some l) : OpV P e ⟨d, .build t parts.toArray, ty, ps, af, none⟩ (.agg l.toArray) := by
  intro w
  have h0 := fzl_eq h2
  subst h0
  have h3 := fill_of_lay h1
  have h4 : (z.cells.toList).toArray = z.cells := by simp
  rw [h4] at h3
  have h5 : (parts.map fun p => (p.1, ev e p.2)) = evp e parts := evp_eq e parts
  have h6 : (fun i : Nat => (pl.toArray)[i]?) = fun i : Nat => pl[i]? := by funext i; simp
  simp [OpR, execOp, Instr.build, hz, run_underlying hu, hp, h5, h6, h3]
/-- a slice's literal: a new block -/
theorem op_buildSlice {t el : TypeId} {n k : Nat} {parts : List (Nat × Operand)} {z : Value} {l0 l : List Value} (hu : P.underlying t = some (.slice el)) (hs : ∀ w, (sizeOf el).run P w = .ok k w) (hz : ∀ w, (zeroValue el).run P w = .ok z w) (hk : z.cells.toList.length = k) (hk0 : Nat.beq (n * k) 0 = false) (hn : Nat.ble (n * k) 16777216 = true)
    (h1 : lay (fun i => some (i * k, k)) ((List.replicate n z.cells.toList).flatten) (evp e parts) = some l0) (h2 : fzl l0 = some l) :
    (execOp (ev e) ⟨d, .buildSlice t n parts.toArray, ty, ps, af, none⟩).run P w = .ok (.value (.slice (some ⟨w.heap.size, 0, none⟩) n n)) (w.alloc (.cells l.toArray el)) := by
  have h0 := fzl_eq h2
  subst h0
  have h3 := fill_of_lay h1
  have hk1 : n * k ≠ 0 := by intro h; rw [h] at hk0; cases hk0
  have hk2 : ¬ (n * k > 16777216) := by have := Nat.le_of_ble_eq_true hn; omega
  have hz2 : (z.cells.toList).toArray = z.cells := by simp
  have hsz : z.cells.size = k := by rw [← hk]; simp
  have hrep : (Array.range (n * k)).map (fun i => z.cells[i % z.cells.size]!) = ((List.replicate n z.cells.toList).flatten).toArray := by
    rw [← Array.toList_inj]
    simp only [Array.toList_map, Array.toList_range]
    clear h1 h3 hk2 hk0 hn
    have key : ∀ m : Nat, (List.range (m * k)).map (fun i => z.cells[i % z.cells.size]!) = (List.replicate m z.cells.toList).flatten := by
      intro m
      induction m with
      | zero => simp
      | succ m ih =>
        rw [Nat.succ_mul, List.range_add, List.map_append, ih, List.replicate_succ', List.flatten_append]
        congr 1
        simp only [List.map_map, List.flatten_cons, List.flatten_nil, List.append_nil]
        apply List.ext_getElem?
        intro j
        by_cases hj : j < k
        · have : (m * k + j) % k = j := by rw [Nat.add_comm, Nat.add_mul_mod_self_right, Nat.mod_eq_of_lt hj]
          simp [hj, hsz, this]
        · simp [hj, hsz]
    exact key n
  have h5 : (parts.map fun p => (p.1, ev e p.2)) = evp e parts := evp_eq e parts
  simp [execOp, Instr.buildSlice, run_underlying hu, hs, hz, hk1, hk2, hrep, h5, h3, newRow]
/-- a call of a function by its name -/
theorem rw_call {f : FuncId} {args : List Operand} {tys : Array TypeId} {vs : List Value} {R : Value → World → Prop} (hv : fzl (args.map (ev e)) = some vs) (hc : Fn P f vs w R) (hr : ∀ v w', R v w' → RW P ops Q rest (updO e d v) w') :
    RW P ops Q (⟨d, .call ⟨.value (.func f), args.toArray, tys⟩, ty, ps, af, none⟩ :: rest) e w := by
  have h0 := fzl_eq hv
  rw [RW_t rfl, opNext]
  have hrun : (execOp (ev e) ⟨d, .call ⟨.value (.func f), args.toArray, tys⟩, ty, ps, af, none⟩).run P w = .ok (.enter f vs.toArray) w := by
    have h1 : ev e (.func f) = .func (.func f) #[] #[] := rfl
    simp [execOp, resolve, h1, Deferred.ofValue, invoke, h0, run_callFunc_E hc.1]
  rw [hrun]
  exact hc.2.mono fun en w' ⟨v, he, hR⟩ => ⟨v, he, hr _ _ hR⟩
/-- a call of a function value -/
theorem rw_callv {f : FuncId} {x : Operand} {args : List Operand} {tys : Array TypeId} {first cap vs : List Value} {R : Value → World → Prop} (hx : ev e x = .func (.func f) first.toArray cap.toArray) (hv : fzl (args.map (ev e)) = some vs) (hc : Fn P f (first ++ vs ++ cap) w R) (hr : ∀ v w', R v w' → RW P ops Q rest (updO e d v) w') :
    RW P ops Q (⟨d, .call ⟨.value x, args.toArray, tys⟩, ty, ps, af, none⟩ :: rest) e w := by
  have h0 := fzl_eq hv
  rw [RW_t rfl, opNext]
  have hrun : (execOp (ev e) ⟨d, .call ⟨.value x, args.toArray, tys⟩, ty, ps, af, none⟩).run P w = .ok (.enter f (first ++ vs ++ cap).toArray) w := by
    simp [execOp, resolve, hx, Deferred.ofValue, invoke, h0, run_callFunc_E hc.1]
  rw [hrun]
  exact hc.2.mono fun en w' ⟨v, he, hR⟩ => ⟨v, he, hr _ _ hR⟩
/-- a call of a method of an interface value -/
theorem rw_invoke {f : FuncId} {x : Operand} {m : String} {args : List Operand} {tys : Array TypeId} {vs : List Value} {t : TypeId} {u rv : Value} {R : Value → World → Prop} (hx : ev e x = .iface t u) (hm : (method (P.types.size + Made.depth) t u m).run P w = .ok (f, rv) w)
    (hv : fzl (args.map (ev e)) = some vs) (hc : Fn P f (rv :: vs) w R) (hr : ∀ v w', R v w' → RW P ops Q rest (updO e d v) w') :
    RW P ops Q (⟨d, .call ⟨.invoke x m, args.toArray, tys⟩, ty, ps, af, none⟩ :: rest) e w := by
  have h0 := fzl_eq hv
  rw [RW_t rfl, opNext]
  have hrun : (execOp (ev e) ⟨d, .call ⟨.invoke x m, args.toArray, tys⟩, ty, ps, af, none⟩).run P w = .ok (.enter f (rv :: vs).toArray) w := by
    simp [execOp, resolve, hx, invoke, callMethod, hm, h0, run_callFunc_E hc.1]
  rw [hrun]
  exact hc.2.mono fun en w' ⟨v, he, hR⟩ => ⟨v, he, hr _ _ hR⟩
theorem rq_call {f : FuncId} {args : List Operand} {tys : Array TypeId} {vs : List Value} {v : Value} (hv : fzl (args.map (ev e)) = some vs) (hc : ∀ w, C w → Fn P f vs w (fun v' w' => v' = v ∧ C w')) (hr : RQ P ops C Qq rest (updO e d v)) :
    RQ P ops C Qq (⟨d, .call ⟨.value (.func f), args.toArray, tys⟩, ty, ps, af, none⟩ :: rest) e := by
  have h0 := fzl_eq hv
  rw [RQ_t rfl]
  refine ⟨v, fun w hw => ?_, hr⟩
  have hrun : (execOp (ev e) ⟨d, .call ⟨.value (.func f), args.toArray, tys⟩, ty, ps, af, none⟩).run P w = .ok (.enter f vs.toArray) w := by
    have h1 : ev e (.func f) = .func (.func f) #[] #[] := rfl
    simp [execOp, resolve, h1, Deferred.ofValue, invoke, h0, run_callFunc_E (hc w hw).1]
  rw [hrun]
  exact ⟨rfl, (hc w hw).2.mono fun en w' ⟨v', he, hv', hC'⟩ => by subst hv'; exact ⟨he, hC'⟩⟩
theorem rq_callv {f : FuncId} {x : Operand} {args : List Operand} {tys : Array TypeId} {first cap vs : List Value} {v : Value} (hx : ev e x = .func (.func f) first.toArray cap.toArray) (hv : fzl (args.map (ev e)) = some vs) (hc : ∀ w, C w → Fn P f (first ++ vs ++ cap) w (fun v' w' => v' = v ∧ C w')) (hr : RQ P ops C Qq rest (updO e d v)) :
    RQ P ops C Qq (⟨d, .call ⟨.value x, args.toArray, tys⟩, ty, ps, af, none⟩ :: rest) e := by
  have h0 := fzl_eq hv
  rw [RQ_t rfl]
  refine ⟨v, fun w hw => ?_, hr⟩
  have hrun : (execOp (ev e) ⟨d, .call ⟨.value x, args.toArray, tys⟩, ty, ps, af, none⟩).run P w = .ok (.enter f (first ++ vs ++ cap).toArray) w := by
    simp [execOp, resolve, hx, Deferred.ofValue, invoke, h0, run_callFunc_E (hc w hw).1]
  rw [hrun]
  exact ⟨rfl, (hc w hw).2.mono fun en w' ⟨v', he, hv', hC'⟩ => by subst hv'; exact ⟨he, hC'⟩⟩
theorem rq_invoke {f : FuncId} {x : Operand} {m : String} {args : List Operand} {tys : Array TypeId} {vs : List Value} {t : TypeId} {u rv v : Value} (hx : ev e x = .iface t u) (hm : ∀ w, (method (P.types.size + Made.depth) t u m).run P w = .ok (f, rv) w)
    (hv : fzl (args.map (ev e)) = some vs) (hc : ∀ w, C w → Fn P f (rv :: vs) w (fun v' w' => v' = v ∧ C w')) (hr : RQ P ops C Qq rest (updO e d v)) :
    RQ P ops C Qq (⟨d, .call ⟨.invoke x m, args.toArray, tys⟩, ty, ps, af, none⟩ :: rest) e := by
  have h0 := fzl_eq hv
  rw [RQ_t rfl]
  refine ⟨v, fun w hw => ?_, hr⟩
  have hrun : (execOp (ev e) ⟨d, .call ⟨.invoke x m, args.toArray, tys⟩, ty, ps, af, none⟩).run P w = .ok (.enter f (rv :: vs).toArray) w := by
    simp [execOp, resolve, hx, invoke, callMethod, hm, h0, run_callFunc_E (hc w hw).1]
  rw [hrun]
  exact ⟨rfl, (hc w hw).2.mono fun en w' ⟨v', he, hv', hC'⟩ => by subst hv'; exact ⟨he, hC'⟩⟩
end
end Go.Proofs.Ytbcgbcipigcbhaa
