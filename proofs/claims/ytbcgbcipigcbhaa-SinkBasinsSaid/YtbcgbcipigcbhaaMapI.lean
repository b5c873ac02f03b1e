/- Maps from whole numbers to whole numbers that a call makes: a look-up, a store, a new one. -/
import Derived.Test.YtbcgbcipigcbhaaSep
import Derived.Maps.Own
namespace Go.Proofs.Ytbcgbcipigcbhaa
open Go.RowKit
set_option linter.unusedVariables false
set_option linter.unusedSimpArgs false

def entOk (e : MapEntry) : Prop := ∃ x y : Int, e.key = .int .i64 x ∧ e.val = .int .i64 y
def keyME (e : MapEntry) : Int := match e.key with
  | .int _ x => x
  | _ => 0
def valME (e : MapEntry) : Int := match e.val with
  | .int _ x => x
  | _ => 0
theorem entOk.key {e : MapEntry} (h : entOk e) : e.key = .int .i64 (keyME e) := by obtain ⟨x, y, h1, h2⟩ := h; unfold keyME; rw [h1]
theorem entOk.val {e : MapEntry} (h : entOk e) : e.val = .int .i64 (valME e) := by obtain ⟨x, y, h1, h2⟩ := h; unfold valME; rw [h2]
def lookE : List MapEntry → Int → Option Int
  | [], _ => none
  | e :: r, k => if keyME e = k then some (valME e) else lookE r k
def updM (m : Int → Option Int) (k v : Int) : Int → Option Int := fun x => if x = k then some v else m x
theorem updM_at {m : Int → Option Int} {k v : Int} : updM m k v k = some v := if_pos rfl
theorem updM_ne {m : Int → Option Int} {k v x : Int} (h : x ≠ k) : updM m k v x = m x := if_neg h
theorem find_none {k : Int} : ∀ {l : List MapEntry} {i : Nat}, (∀ e ∈ l, entOk e) → lookE l k = none → Instr.findNow (.int .i64) (.int .i64 k) l i = some none
  | [], _, _, _ => rfl
  | e :: r, i, h, hl => by
    have he := h e (by simp)
    unfold lookE at hl
    split at hl
    · cases hl
    · rename_i hne
      have hs : Instr.sameNow (.int .i64) (.int .i64 k) e.key = some false := by rw [he.key]; simp [Instr.sameNow]; exact fun h => hne h.symm
      unfold Instr.findNow
      rw [hs]
      exact find_none (l := r) (fun e he => h e (List.mem_cons_of_mem _ he)) hl
theorem find_some {k y : Int} : ∀ {l : List MapEntry} {i : Nat}, (∀ e ∈ l, entOk e) → lookE l k = some y → ∃ j, Instr.findNow (.int .i64) (.int .i64 k) l i = some (some (i + j, .int .i64 y)) ∧ (l[j]?).map (·.key) = some (.int .i64 k) ∧
      ∀ v k' : Int, lookE (l.modify j fun e => { e with key := .int .i64 k, val := .int .i64 v }) k' = if k' = k then some v else lookE l k'
  | [], _, _, h => by cases h
  | e :: r, i, h, hl => by
    have he := h e (by simp)
    unfold lookE at hl
    split at hl
    · rename_i hk
      injection hl with hl
      have hs : Instr.sameNow (.int .i64) (.int .i64 k) e.key = some true := by rw [he.key]; simp [Instr.sameNow, hk]
      refine ⟨0, ?_, by simp [he.key, hk], fun v k' => ?_⟩
      · unfold Instr.findNow
        rw [hs]
        show some (some (i, e.val)) = _
        rw [he.val, hl, Nat.add_zero]
      · simp only [List.modify_zero_cons, lookE]
        have e1 : keyME { key := .int .i64 k, val := .int .i64 v, born := e.born } = k := rfl
        have e2 : valME { key := .int .i64 k, val := .int .i64 v, born := e.born } = v := rfl
        rw [e1, e2, hk]
        by_cases hkk : k' = k
        · rw [if_pos hkk.symm, if_pos hkk]
        · rw [if_neg (fun h => hkk h.symm), if_neg hkk, if_neg (fun h => hkk h.symm)]
    · rename_i hne
      have hs : Instr.sameNow (.int .i64) (.int .i64 k) e.key = some false := by rw [he.key]; simp [Instr.sameNow]; exact fun h => hne h.symm
      obtain ⟨j, h1, h2, h3⟩ := find_some (l := r) (i := i + 1) (fun e he => h e (List.mem_cons_of_mem _ he)) hl
      refine ⟨j + 1, ?_, by simpa using h2, fun v k' => ?_⟩
      · unfold Instr.findNow
        rw [hs]
        show Instr.findNow _ _ r (i + 1) = _
        rw [h1]
        congr 3
        omega
      · simp only [List.modify_succ_cons, lookE]
        by_cases hkk : keyME e = k'
        · rw [if_pos hkk, if_neg (fun e1 => hne (hkk.trans e1)), if_pos hkk]
        · rw [if_neg hkk, if_neg hkk]; exact h3 v k'
theorem lookE_push {k v : Int} {c : Nat} : ∀ {l : List MapEntry}, lookE l k = none → ∀ k', lookE (l ++ [⟨.int .i64 k, .int .i64 v, c⟩]) k' = if k' = k then some v else lookE l k'
  | [], _, k' => by
    show (if keyME ⟨.int .i64 k, .int .i64 v, c⟩ = k' then _ else _) = _
    have e1 : keyME ⟨.int .i64 k, .int .i64 v, c⟩ = k := rfl
    rw [e1]
    by_cases hkk : k' = k
    · rw [if_pos hkk.symm, if_pos hkk]; rfl
    · rw [if_neg (fun h => hkk h.symm), if_neg hkk]
  | e :: r, hl, k' => by
    unfold lookE at hl
    split at hl
    · cases hl
    · rename_i hne
      simp only [List.cons_append, lookE]
      by_cases hkk : keyME e = k'
      · rw [if_pos hkk, if_neg (fun e1 => hne (hkk.trans e1)), if_pos hkk]
      · rw [if_neg hkk, if_neg hkk]; exact lookE_push (l := r) hl k'
/-- block b is a map that tells m -/
def MpI (w : World) (b : Nat) (m : Int → Option Int) : Prop := ∃ es clock, w.heap[b]? = some (.map es clock) ∧ (∀ e ∈ es.toList, entOk e) ∧ ∀ k, lookE es.toList k = m k
section
variable {P : Program} {ops : Array Oper} {Q : (Nat → Value) → World → Prop} {e : Nat → Value} {w w' : World} {rest : List Oper} {d : Option Tmp} {ty : TypeId} {ps : String} {af : Array Edge} {b : Nat} {m : Int → Option Int}
theorem MpI.lt (h : MpI w b m) : b < w.heap.size := by
  obtain ⟨es, c, h, _⟩ := h
  rcases Nat.lt_or_ge b w.heap.size with hlt | hge
  · exact hlt
  · rw [Array.getElem?_eq_none hge] at h; cases h
theorem MpI.keep (h : MpI w b m) (hk : w'.heap[b]? = w.heap[b]?) : MpI w' b m := by
  obtain ⟨es, c, h, h2⟩ := h
  exact ⟨es, c, hk.trans h, h2⟩
theorem MpI.congr {m' : Int → Option Int} (h : MpI w b m) (hm : ∀ k, m k = m' k) : MpI w b m' := by
  obtain ⟨es, c, h, h2, h3⟩ := h
  exact ⟨es, c, h, h2, fun k => (h3 k).trans (hm k)⟩
def HA.map (b : Nat) (m : Int → Option Int) : HA := ⟨fun g => g = b, fun w => MpI w b m, fun _ _ h _ hB => hB.keep (h b rfl), fun _ hB g hg => hg ▸ hB.lt⟩
theorem run_getObj_E {r : Nat} {es : Array MapEntry} {c : Nat} (h : w.heap[r]? = some (.map es c)) : (getObj r).run P w = .ok (.map es c) w := by
  simp [getObj, Sem.run, h]
theorem run_setObj_map {r : Nat} {es : Array MapEntry} {c : Nat} (o : Obj) (h : w.heap[r]? = some (.map es c)) : (setObj r o).run P w = .ok () { w with heap := w.heap.setIfInBounds r o } := by
  simp [setObj, Sem.run, h]
theorem run_checkKey_int {kt : TypeId} (hk : P.underlying kt = some (.int .i64)) (em : Bool) (k : Int) : (Instr.checkKey em 10000 kt (.int .i64 k)).run P w = .ok () w := by
  unfold Instr.checkKey
  simp [run_underlying hk]
theorem run_look {t kt et : TypeId} (hu : P.underlying t = some (.map kt et)) (hk : P.underlying kt = some (.int .i64)) (hz : (zeroValue et).run P w = .ok (.int .i64 0) w) (h : MpI w b m) (k : Int) (ok : Bool) :
    (Instr.lookup t (.map (some b)) (.int .i64 k) ok).run P w = .ok (if ok then .tuple #[.int .i64 ((m k).getD 0), .bool (m k).isSome] else .int .i64 ((m k).getD 0)) w := by
  obtain ⟨es, c, hb, hent, hm⟩ := h
  cases hl : lookE es.toList k with
  | none =>
    have h1 := find_none (i := 0) hent hl
    have h2 : m k = none := (hm k).symm.trans hl
    cases ok <;> simp [Instr.lookup, run_underlying hu, run_getObj_E hb, run_checkKey_int hk, Instr.findKey, run_underlying hk, h1, hz, h2]
  | some y =>
    obtain ⟨j, h1, _⟩ := find_some (i := 0) hent hl
    have h2 : m k = some y := (hm k).symm.trans hl
    cases ok <;> simp [Instr.lookup, run_underlying hu, run_getObj_E hb, run_checkKey_int hk, Instr.findKey, run_underlying hk, h1, h2]
theorem run_upd {t kt et : TypeId} (hu : P.underlying t = some (.map kt et)) (hk : P.underlying kt = some (.int .i64)) (h : MpI w b m) (k v : Int) :
    ∃ w', (Instr.mapUpdate t (.map (some b)) (.int .i64 k) (.int .i64 v)).run P w = .ok () w' ∧ w.grownBy w' (some b) ∧ MpI w' b (updM m k v) := by
  obtain ⟨es, c, hb, hent, hm⟩ := h
  have hlt : b < w.heap.size := MpI.lt ⟨es, c, hb, hent, hm⟩
  have hgr : ∀ o : Obj, w.grownBy { w with heap := w.heap.setIfInBounds b o } (some b) := fun o =>
    ⟨rfl, rfl, rfl, by simp, fun i _ hi => by simp only [Array.getElem?_setIfInBounds]; rw [if_neg (fun e => hi (by rw [e]))]⟩
  have hat : ∀ o : Obj, ({ w with heap := w.heap.setIfInBounds b o } : World).heap[b]? = some o := fun o => by simp [hlt]
  cases hl : lookE es.toList k with
  | none =>
    have h1 := find_none (i := 0) hent hl
    refine ⟨_, ?_, hgr (.map (es.push ⟨.int .i64 k, .int .i64 v, c⟩) (c + 1)), _, _, hat _, fun e he => ?_, fun k' => ?_⟩
    · simp [Instr.mapUpdate, run_underlying hu, run_getObj_E hb, run_checkKey_int hk, Instr.findKey, run_underlying hk, h1, run_setObj_map _ hb]
    · simp only [Array.toList_push, List.mem_append, List.mem_singleton] at he
      rcases he with he | rfl
      · exact hent e he
      · exact ⟨k, v, rfl, rfl⟩
    · rw [Array.toList_push, lookE_push hl, hm k']; rfl
  | some y =>
    obtain ⟨j, h1, h2, h3⟩ := find_some (i := 0) hent hl
    rw [Nat.zero_add] at h1
    refine ⟨_, ?_, hgr (.map (es.modify j fun e => { e with key := .int .i64 k, val := .int .i64 v }) c), _, _, hat _, fun e he => ?_, fun k' => ?_⟩
    · have h4 : (es[j]?.map (·.key)).getD (.int .i64 k) = .int .i64 k := by
        have : es.toList[j]? = es[j]? := by simp
        rw [this] at h2
        rw [h2]; rfl
      have h5 : Instr.sameBits 10000 (.int .i64 k) (.int .i64 k) = true := by unfold Instr.sameBits; simp
      have h6 : (Instr.keyThatStays (.int .i64 k) (.int .i64 k)).run P w = .ok (.int .i64 k) w := by unfold Instr.keyThatStays; simp [h5]
      simp only [Instr.mapUpdate, Sem.run_bind, run_underlying hu, Result.andThen_ok, run_getObj_E hb, run_checkKey_int hk, Instr.findKey, run_underlying hk, h1, Sem.run_pure, h4, h6, run_setObj_map _ hb]
    · simp only [Array.toList_modify] at he
      obtain ⟨i, hi, rfl⟩ := List.mem_iff_getElem.1 he
      rw [List.getElem_modify]
      split
      · exact ⟨k, v, rfl, rfl⟩
      · exact hent _ (List.getElem_mem _)
    · rw [Array.toList_modify, h3 v k', hm k']; rfl
theorem op_look {t kt et : TypeId} {x i : Operand} {k : Int} (hu : P.underlying t = some (.map kt et)) (hk : P.underlying kt = some (.int .i64)) (hz : (zeroValue et).run P w = .ok (.int .i64 0) w) (hx : ev e x = .map (some b)) (hi : ev e i = .int .i64 k) (h : MpI w b m) :
    OpR P e ⟨d, .lookup t x i false, ty, ps, af, none⟩ w (.int .i64 ((m k).getD 0)) := by
  have := run_look (P := P) hu hk hz h k false
  simp [OpR, execOp, hx, hi, this]
theorem op_lookOk {t kt et : TypeId} {x i : Operand} {k : Int} (hu : P.underlying t = some (.map kt et)) (hk : P.underlying kt = some (.int .i64)) (hz : (zeroValue et).run P w = .ok (.int .i64 0) w) (hx : ev e x = .map (some b)) (hi : ev e i = .int .i64 k) (h : MpI w b m) :
    OpR P e ⟨d, .lookup t x i true, ty, ps, af, none⟩ w (.tuple #[.int .i64 ((m k).getD 0), .bool (m k).isSome]) := by
  have := run_look (P := P) hu hk hz h k true
  simp [OpR, execOp, hx, hi, this]
variable {F : Nat → Prop} {W : World} {L L' : List HA}
theorem St.map (S : St F W w L) {i : Nat} (hi : getO L i = some (.map b m)) : MpI w b m := S.ok hi
theorem rw_mapUpd {i : Nat} {t kt et : TypeId} {x y z : Operand} {k v : Int} (S : St F W w L) (hi : getO L i = some (.map b m)) (hu : P.underlying t = some (.map kt et)) (hk : P.underlying kt = some (.int .i64)) (hx : ev e x = .map (some b)) (hy : ev e y = .int .i64 k) (hv : ev e z = .int .i64 v)
    (hs : setO L i (.map b (updM m k v)) = some L') (hr : ∀ w', St F W w' L' → RW P ops Q rest (updO e d undef) w') : RW P ops Q (⟨d, .mapUpdate t x y z, ty, ps, af, none⟩ :: rest) e w := by
  obtain ⟨w', hrun, hg, hM⟩ := run_upd (P := P) hu hk (S.map hi) k v
  refine rw_s (w' := w') ?_ (hr w' ?_)
  · simp [execOp, hx, hy, hv, hrun]
  · exact S.set hi hs (Fr.of_grown (F := fun b' => b' = b) hg (fun b e => by injection e with e; exact e.symm)) (fun b e => .inl e) hM (fun b e => .inl e)
theorem rw_makeMap {t : TypeId} (S : St F W w L) (hr : ∀ b w', Gr w w' → St F W w' (.map b (fun _ => none) :: L) → RW P ops Q rest (updO e d (.map (some b))) w') : RW P ops Q (⟨d, .makeMap t none, ty, ps, af, none⟩ :: rest) e w := by
  refine rw_w (v := .map (some w.heap.size)) (w' := w.alloc (.map #[] 0)) ?_ (hr _ _ (Gr.alloc w _) ?_)
  · have := @run_makeMap P t w
    simp [execOp, this]
  · exact S.push (Gr.alloc w _) (h := .map w.heap.size fun _ => none) ⟨#[], 0, heap_alloc_new w _, (fun e he => by simp at he), fun k => rfl⟩ (fun g hg => by rw [hg]; exact Nat.le_refl _)
end
end Go.Proofs.Ytbcgbcipigcbhaa
