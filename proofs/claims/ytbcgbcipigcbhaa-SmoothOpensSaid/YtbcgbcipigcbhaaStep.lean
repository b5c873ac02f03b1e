/- The ends of a walk: cuts, results, frames that are told by some slots. -/
import Derived.Test.YtbcgbcipigcbhaaMemB
namespace Go.Proofs.Ytbcgbcipigcbhaa
open Go.RowKit
set_option linter.unusedVariables false
set_option linter.unusedSimpArgs false

section
variable {P : Program} {N : Nat} {Q : Exit → (Nat → Value) → World → Prop} {e : Nat → Value} {w : World} {ops : Array Oper} {rest : List Oper}
theorem Then_mono {M M' : (Nat → Value) → World → Prop} (h : ∀ e w, M e w → M' e w) : ∀ x e w, Then M Q x e w → Then M' Q x e w := by
  intro x e w hx
  cases x <;> first | exact h _ _ hx | exact hx
theorem cw_cut {x y : Code} (M : (Nat → Value) → World → Prop) (h1 : CW P N x (Then M Q) e w) (h2 : ∀ e' w', M e' w' → CW P N y Q e' w') : CW P N (.seq x y) Q e w := cw_seq (h1.mono (Then_mono h2))
theorem cw_cutT {x : Code} {M' : (Nat → Value) → World → Prop} (M : (Nat → Value) → World → Prop) (h1 : CW P N x (Then M Q) e w) (h2 : ∀ e' w', M e' w' → M' e' w') : CW P N x (Then M' Q) e w := h1.mono (Then_mono h2)
theorem ret_then {M : (Nat → Value) → World → Prop} (h : Q .ret e w) : Then M Q .ret e w := h
theorem ret_inb {k : Nat} (h : Q .ret e w) : InB k Q .ret e w := h
theorem exit_then {k : Nat} {M : (Nat → Value) → World → Prop} (h : Q (.exit k) e w) : Then M Q (.exit k) e w := h
theorem exit_inb {k : Nat} (h : Q .normal e w) : InB k Q (.exit k) e w := by
  have hb : Nat.beq k k = true := by simp
  simp only [InB, hb]
  exact h
theorem rw_end {next : (Nat → Value) → World → Prop} (h : next e w) : RW P ops (fun e w => Then next Q .normal e w) [] e w := h
/-- what some slots hold -/
def SL (e : Nat → Value) : List (Nat × Value) → Prop
  | [] => True
  | (k, v) :: r => e k = v ∧ SL e r
def setl (e : Nat → Value) : List (Nat × Value) → Nat → Value
  | [] => e
  | (k, v) :: r => setl (upd e k v) r
theorem SL.fold : ∀ {l : List (Nat × Value)}, SL e l → e = setl e l
  | [], _ => rfl
  | (k, v) :: r, h => by
    show e = setl (upd e k v) r
    rw [upd_self h.1]
    exact SL.fold h.2
theorem ie {k : IntKind} {a b : Int} (h : a = b) : Value.int k a = Value.int k b := by rw [h]
theorem be {a b : Bool} (h : a = b) : Value.bool a = Value.bool b := by rw [h]
theorem se {A : Option Addr} {n c m k : Nat} (h : n = m) (h' : c = k) : Value.slice A n c = Value.slice A m k := by rw [h, h']

/-! ### Results -/
theorem res1 {t : Tmp} {v : Value} {R : Value → World → Prop} (h : fz (e t) = some v) (hR : R v w) : QF P #[.tmp t] R .ret e w :=
  ⟨v, fun fn tmps hr hg => by have h1 := hg t; rw [fz_eq h] at h1; rw [results_tmp hr, h1], hR⟩
theorem res2 {t u : Tmp} {v1 v2 : Value} {R : Value → World → Prop} (h1 : fz (e t) = some v1) (h2 : fz (e u) = some v2) (hR : R (.tuple #[v1, v2]) w) : QF P #[.tmp t, .tmp u] R .ret e w :=
  ⟨_, fun fn tmps hr hg => by
    have g1 := hg t; have g2 := hg u
    rw [fz_eq h1] at g1; rw [fz_eq h2] at g2
    rw [results_tmp2 hr, g1, g2], hR⟩
theorem res3 {t u x : Tmp} {v1 v2 v3 : Value} {R : Value → World → Prop} (h1 : fz (e t) = some v1) (h2 : fz (e u) = some v2) (h3 : fz (e x) = some v3) (hR : R (.tuple #[v1, v2, v3]) w) : QF P #[.tmp t, .tmp u, .tmp x] R .ret e w :=
  ⟨_, fun fn tmps hr hg => by
    have g1 := hg t; have g2 := hg u; have g3 := hg x
    rw [fz_eq h1] at g1; rw [fz_eq h2] at g2; rw [fz_eq h3] at g3
    rw [results_tmp3 hr, g1, g2, g3], hR⟩
theorem res0 {R : Value → World → Prop} (hR : R (.tuple #[]) w) : QF P #[] R .ret e w := ⟨_, fun fn tmps hr _ => results_none hr _ _ _, hR⟩
theorem res0n {R : Value → World → Prop} (hR : R (.tuple #[]) w) : QF P #[] R .normal e w := ⟨_, fun fn tmps hr _ => results_none hr _ _ _, hR⟩
theorem run_loadVar_E {t : TypeId} {a : Addr} {v : Value} {o : Oper} (h : OpR P (fun _ => .pointer (some a)) ⟨none, .load t (.tmp 0), 0, "", #[], none⟩ w v) : (loadVar t a).run P w = .ok v w := by
  simp only [OpR, execOp, Instr.loadAt, Instr.sureAddr, ev, Sem.run_bind, Sem.run_pure, Result.andThen_ok] at h
  cases hr : (loadVar t a).run P w with
  | ok u w' => rw [hr] at h; simp only [Result.andThen_ok, Result.ok.injEq, Next.value.injEq] at h; rw [h.1, h.2]
  | halt x w' => rw [hr] at h; cases h
/-- a result that is a struct in memory -/
theorem resA {a : Tmp} {t tb : TypeId} {b o n : Nat} {dd : TypeDesc} {cs l : List Value} {R : Value → World → Prop} (hu : P.underlying t = some dd) (hd : aggD dd = true) (hz : (sizeOf t).run P w = .ok n w) (hx : e a = .pointer (some ⟨b, o, none⟩)) (hB : Blk w b tb l)
    (hl : fzl ((l.drop o).take n) = some cs) (hn : cs.length = n) (hR : R (.agg cs.toArray) w) : QF P #[.cell a t] R .ret e w :=
  ⟨_, fun fn tmps hr hg => by
    have h1 := run_loadVar_E (o := default) (op_loadAB (P := P) (d := none) (ty := 0) (ps := "") (af := #[]) (e := fun _ => .pointer (some ⟨b, o, none⟩)) (x := .tmp 0) hu hd hz rfl hB hl hn)
    have g1 := hg a
    rw [hx, Array.getD_eq_getD_getElem?] at g1
    simp [results, hr, g1, asAddr, h1], hR⟩
theorem resAT {a u : Tmp} {t tb : TypeId} {b o n : Nat} {dd : TypeDesc} {cs l : List Value} {v2 : Value} {R : Value → World → Prop} (hu : P.underlying t = some dd) (hd : aggD dd = true) (hz : (sizeOf t).run P w = .ok n w) (hx : e a = .pointer (some ⟨b, o, none⟩)) (hB : Blk w b tb l)
    (hl : fzl ((l.drop o).take n) = some cs) (hn : cs.length = n) (h2 : fz (e u) = some v2) (hR : R (.tuple #[.agg cs.toArray, v2]) w) : QF P #[.cell a t, .tmp u] R .ret e w :=
  ⟨_, fun fn tmps hr hg => by
    have h1 := run_loadVar_E (o := default) (op_loadAB (P := P) (d := none) (ty := 0) (ps := "") (af := #[]) (e := fun _ => .pointer (some ⟨b, o, none⟩)) (x := .tmp 0) hu hd hz rfl hB hl hn)
    have g1 := hg a
    have g2 := hg u
    rw [hx, Array.getD_eq_getD_getElem?] at g1
    rw [fz_eq h2, Array.getD_eq_getD_getElem?] at g2
    simp [results, hr, g1, g2, asAddr, h1], hR⟩
theorem Fn_of_calls {f : FuncId} {args : List Value} {v : Value} {R : World → Prop} (hcl : callableB P f = true) (h : Calls P f args.toArray w fun r w' => r = .returned v ∧ R w') : Fn P f args w (fun v' w' => v' = v ∧ R w') :=
  ⟨hcl, h.mono fun _ _ ⟨he, hR⟩ => ⟨_, he, rfl, hR⟩⟩
/-- a store of a struct -/
theorem rw_storeA {d : Option Tmp} {ty : TypeId} {ps : String} {af : Array Edge} {Q : (Nat → Value) → World → Prop} {t tb : TypeId} {x y : Operand} {b o n : Nat} {l cs l' : List Value} (hz : (sizeOf t).run P w = .ok n w) (hx : ev e x = .pointer (some ⟨b, o, none⟩)) (hy : ev e y = .agg cs.toArray) (hn : cs.length = n) (hB : Blk w b tb l)
    (hl' : fzl (l.take o ++ cs ++ l.drop (o + n)) = some l') (ho : ((cs.all fun v => v.oneCell') && Nat.ble (o + n) l.length) = true)
    (hr : ∀ w', w.grownBy w' (some b) → w'.heap.size = w.heap.size → Blk w' b tb l' → RW P ops Q rest (updO e d undef) w') : RW P ops Q (⟨d, .store t x y, ty, ps, af, none⟩ :: rest) e w := by
  have hl := fzl_eq hl'
  subst hl
  simp only [Bool.and_eq_true] at ho
  have hle := Nat.le_of_ble_eq_true ho.2
  have key : ∀ (vs : List Value) (i : Nat) (w : World) (l : List Value), Blk w b tb l → (∀ v ∈ vs, v.oneCell' = true) → o + i + vs.length ≤ l.length →
      ∃ w', (storeCells ⟨b, o, none⟩ vs i).run P w = .ok () w' ∧ w.grownBy w' (some b) ∧ w'.heap.size = w.heap.size ∧ Blk w' b tb (l.take (o + i) ++ vs ++ l.drop (o + i + vs.length)) := by
    intro vs
    induction vs with
    | nil => intro i w l hB _ hle; exact ⟨w, by simp [storeCells], World.grownBy.refl _ _, rfl, by simpa using hB⟩
    | cons v vs ih =>
      intro i w l hB hone hle
      simp only [List.length_cons] at hle
      have hv := hone v (by simp)
      have hc := hB.cellv (i := o + i) (v := l[o + i]'(by omega)) (List.getElem?_eq_getElem (by omega))
      have hf := hB.free (o + i)
      have h1 := run_store P w ⟨b, o + i, none⟩ v .plain hv
      obtain ⟨w', hw', hg', hs', hB'⟩ := ih (i + 1) _ _ (hB.set_ (o + i) v) (fun u hu => hone u (List.mem_cons_of_mem _ hu)) (by simp; omega)
      refine ⟨w', ?_, grown_trans_ (grown_setCell w b (o + i) v) hg', by simpa using hs', ?_⟩
      · simp [storeCells, addr_add, h1, stored, hc, hf, hw']
      · have e1 : o + (i + 1) = (o + i) + 1 := by omega
        rw [e1] at hB'
        rw [List.take_set, List.drop_set_of_lt (by omega), List.take_succ_eq_append_getElem (by omega), List.set_append_right _ _ (by simp; omega)] at hB'
        have h5 : o + i - (l.take (o + i)).length = 0 := by simp; omega
        rw [h5] at hB'
        have e2 : o + i + 1 + vs.length = o + i + (vs.length + 1) := by omega
        rw [e2] at hB'
        simpa using hB'
  obtain ⟨w', hw', hg', hs', hB'⟩ := key cs 0 w l hB (fun v hv => by have := List.all_eq_true.1 ho.1 v hv; exact this) (by omega)
  refine rw_s (w' := w') ?_ (hr w' hg' hs' (by simpa [hn] using hB'))
  have h6 : (Value.agg cs.toArray).cells = cs.toArray := rfl
  simp [execOp, hx, hy, Instr.storeAt, Instr.sureAddr, storeVar, hz, h6, hn, hw']

/-! ### Rows of the call's own -/
def Own (w : World) (base el size : Nat) (A : Option Addr) (n c : Nat) (xs : List Value) : Prop := w.ownsRow base el size (.slice A n c) n xs
theorem Own.nil (w : World) (base el size : Nat) : Own w base el size none 0 0 [] := World.ownsRow_nil _ _ _ _
theorem Own.form {w : World} {base el size : Nat} {v : Value} {n : Nat} {xs : List Value} (h : w.ownsRow base el size v n xs) : ∃ A c, v = .slice A n c := by
  rcases h.2 with ⟨rfl, rfl⟩ | ⟨g, cap, cur, rfl, _⟩
  · exact ⟨_, _, rfl⟩
  · exact ⟨_, _, rfl⟩
theorem Own.below {w w' : World} {B base el size : Nat} {A : Option Addr} {n c : Nat} {xs : List Value} (h : Own w base el size A n c xs) (hb : Below B w w') (hB : ∀ g o, A = some ⟨g, o, none⟩ → g < B) : Own w' base el size A n c xs := by
  obtain ⟨h1, h2⟩ := h
  refine ⟨h1, ?_⟩
  rcases h2 with h2 | ⟨g, cap, cur, hv, hg, hh, r⟩
  · exact .inl h2
  · refine .inr ⟨g, cap, cur, hv, hg, ?_, r⟩
    injection hv with hA
    exact (hb.block g (hB g 0 hA)).trans hh
theorem Own.gr {w w' : World} {base el size : Nat} {A : Option Addr} {n c : Nat} {xs : List Value} (h : Own w base el size A n c xs) (hb : Gr w w') : Own w' base el size A n c xs := by
  refine h.below hb fun g o hA => ?_
  subst hA
  exact (h.lt g rfl).2
theorem Own.base {w : World} {base base' el size : Nat} {A : Option Addr} {n c : Nat} {xs : List Value} (h : Own w base el size A n c xs) (hb : base' ≤ base) : Own w base' el size A n c xs := by
  obtain ⟨h1, h2⟩ := h
  refine ⟨h1, ?_⟩
  rcases h2 with h2 | ⟨g, cap, cur, hv, hg, r⟩
  · exact Or.inl h2
  · exact Or.inr ⟨g, cap, cur, hv, Nat.le_trans hb hg, r⟩
theorem Own.blk {w : World} {base el size : Nat} {A : Option Addr} {n c : Nat} {xs : List Value} (h : Own w base el size A n c xs) (hn : 0 < n) : ∃ g l, A = some ⟨g, 0, none⟩ ∧ base ≤ g ∧ Blk w g el l ∧ l.length = c * size ∧ l.take (n * size) = xs ∧ n ≤ c := by
  rcases h.2 with ⟨_, h2⟩ | ⟨g, cap, cur, hv, hg, hh, hnc, _, hsz, ht⟩
  · omega
  · injection hv with hA _ hc
    subst hA; subst hc
    exact ⟨g, cur.toList, rfl, hg, by unfold Blk; simpa using hh, by simpa using hsz, ht, hnc⟩
/-- append of what a block of its own holds -/
theorem rw_append {d : Option Tmp} {ty : TypeId} {ps : String} {af : Array Edge} {Q : (Nat → Value) → World → Prop} {s x : Operand} {t el tb size bytes base n c m c2 g : Nat} {A : Option Addr} {z : Value} {xs l : List Value}
    (hu : P.underlying t = some (.slice el)) (hI : (P.info? el).map (fun i => (i.zero, i.size, i.bytes)) = some (some z, size, bytes)) (hz : Nat.beq z.cells.size size = true) (hs0 : Nat.blt 0 size = true)
    (hs : ev e s = .slice A n c) (hown : Own w base el size A n c xs) (hx : ev e x = .slice (some ⟨g, 0, none⟩) m c2) (hB : Blk w g tb l) (hl : l.length = m * size) (h1 : (l.all fun v => v.oneCell') = true)
    (hb : (n + m) * (bytes + 1) ≤ 140737488355328) (hbase : base ≤ w.heap.size)
    (hr : ∀ A' c' w', Own w' base el size A' (n + m) c' (xs ++ l) → Below base w w' → w.grownBy w' (Value.slice A n c).ownBlock → RW P ops Q rest (updO e d (.slice A' (n + m) c')) w') :
    RW P ops Q (⟨d, .call ⟨.builtin .append, #[s, x], #[t, t]⟩, ty, ps, af, none⟩ :: rest) e w := by
  obtain ⟨i, hi, hz0, hz1, hz2⟩ := info_parts hI
  have hz' := Nat.eq_of_beq_eq_true hz
  have hs' : 0 < size := Nat.le_of_ble_eq_true hs0
  have hb1 : (n + m) * bytes ≤ 140737488355328 := Nat.le_trans (Nat.mul_le_mul_left _ (by omega)) hb
  have hb2 : n + m ≤ 140737488355328 := Nat.le_trans (Nat.le_mul_of_pos_right _ (by omega)) hb
  obtain ⟨v', w', hrun, ho, hg, _⟩ := run_append_own (P := P) w base t ty el i z size bytes hu hi hz0 hz1 hz2 hz' hs' _ n xs hown ⟨g, 0, none⟩ m c2 l hl
    (fun j u hu => by rw [addr_add]; exact hB.cellv (by simpa using hu)) (fun u hu => List.all_eq_true.1 h1 u hu) (by unfold maxLen; omega) hb1 hbase
  obtain ⟨A', c', rfl⟩ := Own.form ho
  refine rw_w (v := .slice A' (n + m) c') (w' := w') ?_ (hr A' c' w' ho ?_ hg)
  · simp [execOp, resolve, invoke, builtin, hs, hx, hrun]
  · exact (Below.refl _ _).grown hg hbase (fun k hk => (hown.lt k hk).1)
end
end Go.Proofs.Ytbcgbcipigcbhaa
