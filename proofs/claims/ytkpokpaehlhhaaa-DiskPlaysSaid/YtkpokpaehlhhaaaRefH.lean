/- DiskPlays: the region that makes a step. -/
import Derived.Test.YtkpokpaehlhhaaaRefG
import Derived.Test.YtkpokpaehlhhaaaTriI
namespace Go.Proofs.Ytkpokpaehlhhaaa
open Go.RowKit
set_option linter.unusedVariables false
set_option linter.unusedSimpArgs false
set_option maxRecDepth 100000

/-- a store of a struct, told as a step of whatever order -/
theorem to_storeA {P : Program} {e : Nat → Value} {w : World} {d : Option Tmp} {ty : TypeId} {ps : String} {af : Array Edge} {R : Value → World → Prop} {t tb : TypeId} {x y : Operand} {b o n : Nat} {l cs l' : List Value} (hz : (sizeOf t).run P w = .ok n w) (hx : ev e x = .pointer (some ⟨b, o, none⟩)) (hy : ev e y = .agg cs.toArray) (hn : cs.length = n) (hB : Blk w b tb l)
    (hl' : fzl (l.take o ++ cs ++ l.drop (o + n)) = some l') (ho : ((cs.all fun v => v.oneCell') && Nat.ble (o + n) l.length) = true)
    (hr : ∀ w', w.grownBy w' (some b) → Blk w' b tb l' → R undef w') : opTo P e ⟨d, .store t x y, ty, ps, af, none⟩ w R := by
  have hl := fzl_eq hl'
  subst hl
  simp only [Bool.and_eq_true] at ho
  have hle := Nat.le_of_ble_eq_true ho.2
  have key : ∀ (vs : List Value) (i : Nat) (w : World) (l : List Value), Blk w b tb l → (∀ v ∈ vs, v.oneCell' = true) → o + i + vs.length ≤ l.length →
      ∃ w', (storeCells ⟨b, o, none⟩ vs i).run P w = .ok () w' ∧ w.grownBy w' (some b) ∧ w'.heap.size = w.heap.size ∧ Blk w' b tb (l.take (o + i) ++ vs ++ l.drop (o + i + vs.length)) := by
    intro vs
    induction vs with
    | nil => intro i w l hB _ hle; exact ⟨w, by simp [storeCells], World.grownBy.refl _ _, rfl, by simpa using hB⟩
    | cons v vs ih =>
      intro i w l hB hone hle
      simp only [List.length_cons] at hle
      have hv := hone v (by simp)
      have hc := hB.cellv (i := o + i) (v := l[o + i]'(by omega)) (List.getElem?_eq_getElem (by omega))
      have hf := hB.free (o + i)
      have h1 := run_store P w ⟨b, o + i, none⟩ v .plain hv
      obtain ⟨w', hw', hg', hs', hB'⟩ := ih (i + 1) _ _ (hB.set_ (o + i) v) (fun u hu => hone u (List.mem_cons_of_mem _ hu)) (by simp; omega)
      refine ⟨w', ?_, grown_trans_ (grown_setCell w b (o + i) v) hg', by simpa using hs', ?_⟩
      · simp [storeCells, addr_add, h1, stored, hc, hf, hw']
      · have e1 : o + (i + 1) = (o + i) + 1 := by omega
        rw [e1] at hB'
        rw [List.take_set, List.drop_set_of_lt (by omega), List.take_succ_eq_append_getElem (by omega), List.set_append_right _ _ (by simp; omega)] at hB'
        have h5 : o + i - (l.take (o + i)).length = 0 := by simp; omega
        rw [h5] at hB'
        have e2 : o + i + 1 + vs.length = o + i + (vs.length + 1) := by omega
        rw [e2] at hB'
        simpa using hB'
  obtain ⟨w', hw', hg', hs', hB'⟩ := key cs 0 w l hB (fun v hv => by have := List.all_eq_true.1 ho.1 v hv; exact this) (by omega)
  refine to_s (w' := w') ?_ (hr w' hg' (by simpa [hn] using hB'))
  have h6 : (Value.agg cs.toArray).cells = cs.toArray := rfl
  simp [execOp, hx, hy, Instr.storeAt, Instr.sureAddr, storeVar, hz, h6, hn, hw']
theorem to_allocB {P : Program} {e : Nat → Value} {w : World} {d : Option Tmp} {ty : TypeId} {ps : String} {af : Array Edge} {R : Value → World → Prop} {t : TypeId} {z : Value} {l : List Value} (hz : ∀ w, (zeroValue t).run P w = .ok z w) (hl : z.cells.toList = l)
    (hr : ∀ w', Gr w w' → Blk w' w.heap.size t l → R (.pointer (some ⟨w.heap.size, 0, none⟩)) w') : opTo P e ⟨d, .alloc t, ty, ps, af, none⟩ w R :=
  to_new (op_alloc hz hl) (fun w' g _ hB => hr w' g hB)

def zeroD : List Value := [.int .i64 0, .slice none 0 0, .slice none 0 0, .slice none 0 0, .bool false, .int .i64 0, .bool false]
def RC (F : Nat → Prop) (s' : DS) (code : Int) (wq : World) (v : Value) : Prop := ∃ A0 A1 Aw c0 c1 cw, v = .tuple #[.agg (s'.ref A0 A1 Aw c0 c1 cw).toArray, .int .i64 code] ∧ RefAt F wq s' A0 A1 Aw c0 c1 cw
def PZ (w wq : World) (u : Value) : Prop := ∃ b, u = .pointer (some ⟨b, 0, none⟩) ∧ w.heap.size ≤ b ∧ Blk wq b 33 zeroD
def PF (F : Nat → Prop) (s' : DS) (code : Int) (w wq : World) (u v : Value) : Prop := ∃ b A0 A1 Aw c0 c1 cw, u = .pointer (some ⟨b, 0, none⟩) ∧ w.heap.size ≤ b ∧ v = .tuple #[.agg (s'.ref A0 A1 Aw c0 c1 cw).toArray, .int .i64 code] ∧ RefAt F wq s' A0 A1 Aw c0 c1 cw ∧ Blk wq b 33 (s'.ref A0 A1 Aw c0 c1 cw)
def C14 (F : Nat → Prop) (s' : DS) (code : Int) (w wq : World) : List (Nat × Value) → Prop
  | [] => True
  | [(5, v)] => RC F s' code wq v
  | [(9, u)] => PZ w wq u
  | [(9, u), (5, v)] => PZ w wq u ∧ RC F s' code wq v
  | [(5, v), (9, u)] => PZ w wq u ∧ RC F s' code wq v
  | [(10, _), (9, u), (5, v)] => PF F s' code w wq u v
  | [(10, _), (5, v), (9, u)] => PF F s' code w wq u v
  | _ => False
theorem RC.gr {F : Nat → Prop} {s' : DS} {code : Int} {w w' : World} {v : Value} (h : RC F s' code w v) (g : Gr w w') : RC F s' code w' v := by
  obtain ⟨A0, A1, Aw, c0, c1, cw, h1, h2⟩ := h
  exact ⟨A0, A1, Aw, c0, c1, cw, h1, h2.gr g⟩
theorem PZ.gr {w w1 w' : World} {u : Value} (h : PZ w w1 u) (g : Gr w1 w') : PZ w w' u := by
  obtain ⟨b, h1, h2, h3⟩ := h
  exact ⟨b, h1, h2, h3.gr g⟩
theorem RetRefC.rc {F : Nat → Prop} {s' : DS} {code : Int} {w w' : World} {v : Value} (h : RetRefC F code s' w v w') : RC F s' code w' v ∧ Gr w w' := by
  obtain ⟨A0, A1, Aw, c0, c1, cw, h1, h2, g⟩ := h
  exact ⟨⟨A0, A1, Aw, c0, c1, cw, h1, h2⟩, g⟩
theorem tuple_ref {s' : DS} {code : Int} {A0 A1 Aw B0 B1 Bw : Option Addr} {c0 c1 cw d0 d1 dw : Nat} (h : Value.tuple #[.agg (s'.ref A0 A1 Aw c0 c1 cw).toArray, .int .i64 code] = .tuple #[.agg (s'.ref B0 B1 Bw d0 d1 dw).toArray, .int .i64 code]) : A0 = B0 ∧ A1 = B1 ∧ Aw = Bw ∧ c0 = d0 ∧ c1 = d1 ∧ cw = dw := by
  simp [DS.ref] at h
  obtain ⟨⟨h1, h2⟩, ⟨h3, h4⟩, h5, h6⟩ := h
  exact ⟨h1, h3, h5, h2, h4, h6⟩
/-- the store of what the step yielded -/
theorem pf_store {F : Nat → Prop} {P : Program} {e : Nat → Value} {d : Option Tmp} {ty : TypeId} {ps : String} {af : Array Edge} {s' : DS} {code : Int} {w wq : World} {b : Nat} {A0 A1 Aw : Option Addr} {c0 c1 cw : Nat} {x y : Operand} {σ : List (Nat × Value)}
    (hz : ∀ w, (sizeOf 33).run P w = .ok 7 w) (hx : ev e x = .pointer (some ⟨b, 0, none⟩)) (hy : ev e y = .agg (s'.ref A0 A1 Aw c0 c1 cw).toArray) (g : Gr w wq)
    (hp : PZ w wq (.pointer (some ⟨b, 0, none⟩))) (hr : RC F s' code wq (.tuple #[.agg (s'.ref A0 A1 Aw c0 c1 cw).toArray, .int .i64 code]))
    (hσ : ∀ w', PF F s' code w w' (.pointer (some ⟨b, 0, none⟩)) (.tuple #[.agg (s'.ref A0 A1 Aw c0 c1 cw).toArray, .int .i64 code]) → C14 F s' code w w' ((10, undef) :: σ)) :
    opTo P e ⟨d, .store 33 x y, ty, ps, af, none⟩ wq (fun v w' => Gr w w' ∧ C14 F s' code w w' ((10, v) :: σ)) := by
  obtain ⟨b', e1, hb, hB⟩ := hp
  cases e1
  obtain ⟨B0, B1, Bw, d0, d1, dw, e2, hR⟩ := hr
  obtain ⟨rfl, rfl, rfl, rfl, rfl, rfl⟩ := tuple_ref e2
  refine to_storeA (hz _) hx hy rfl hB rfl rfl (fun w' hg hB' => ?_)
  have hfr : Fr (fun g => g = b) wq w' := Fr.of_grown hg (fun g e => by injection e with e; exact e.symm)
  refine ⟨?_, hσ w' ⟨b, A0, A1, Aw, c0, c1, cw, rfl, hb, rfl, hR.past hB rfl hfr, hB'⟩⟩
  exact ((Fr.of_gr (F := fun g => g = b) g).trans hfr (fun g e => .inl e)).gr (fun g e => by have e : g = b := e; omega)
