/- The steps of a walk: what an operation does to the frame and to memory. -/
import Derived.Test.YtbcgbcipigcbhaaOps
namespace Go.Proofs.Ytbcgbcipigcbhaa
open Go.RowKit
set_option linter.unusedVariables false
set_option linter.unusedSimpArgs false

/-- Block b is just these cells, none of them frozen. -/
def Blk (w : World) (b : Nat) (t : TypeId) (l : List Value) : Prop := w.heap[b]? = some (.cells l.toArray t (0, 0))
/-- All that was there stands as it was. -/
def Gr (w w' : World) : Prop := Below w.heap.size w w'

section
variable {P : Program} {w w' : World} {b : Nat} {t : TypeId} {l : List Value}
theorem Blk.lt (h : Blk w b t l) : b < w.heap.size := by
  rcases Nat.lt_or_ge b w.heap.size with hlt | hge
  · exact hlt
  · unfold Blk at h; rw [Array.getElem?_eq_none hge] at h; cases h
theorem Blk.cell (h : Blk w b t l) (i : Nat) : w.cell? ⟨b, i, none⟩ = l[i]? := by
  rw [cell_of_row w b i l.toArray t (0, 0) h]; simp
theorem Blk.cellv (h : Blk w b t l) {i : Nat} {v : Value} (hv : l[i]? = some v) : w.cell? ⟨b, i, none⟩ = some v := (h.cell i).trans hv
theorem Blk.free (h : Blk w b t l) (i : Nat) : w.frozen? ⟨b, i, none⟩ = false := frozen_of_row w b i l.toArray t h
theorem Blk.keep (h : Blk w b t l) (hk : w'.heap[b]? = w.heap[b]?) : Blk w' b t l := hk.trans h
theorem Blk.below {B : Nat} (h : Blk w b t l) (hb : Below B w w') (hg : b < B) : Blk w' b t l := (hb.block b hg).trans h
theorem Blk.gr (h : Blk w b t l) (g : Gr w w') : Blk w' b t l := h.below g h.lt
theorem Blk.grown {row : Option Nat} (h : Blk w b t l) (hb : w.grownBy w' row) (hg : some b ≠ row) : Blk w' b t l := (hb.block b h.lt hg).trans h
theorem Blk.drew (h : Blk w b t l) : Blk w.drew b t l := h
theorem Blk.inj {t' : TypeId} {l' : List Value} (h : Blk w b t l) (h' : Blk w b t' l') : t = t' ∧ l = l' := by
  unfold Blk at h h'
  rw [h] at h'
  simp only [Option.some.injEq, Obj.cells.injEq] at h'
  exact ⟨h'.2.1, by simpa using h'.1⟩
theorem Blk.ne_ {b' : Nat} {t' : TypeId} {l' : List Value} (h : Blk w b t l) (h' : Blk w b' t' l') (hne : t ≠ t') : b ≠ b' := by
  rintro rfl; exact hne (h.inj h').1
theorem Gr.refl (w : World) : Gr w w := Below.refl _ _
theorem Gr.trans {a b c : World} (h : Gr a b) (k : Gr b c) : Gr a c := Below.trans h (Below.mono k h.size)
theorem Gr.drew (w : World) : Gr w w.drew := (Below.refl _ _).drew
theorem Gr.alloc (w : World) (o : Obj) : Gr w (w.alloc o) := (Below.refl _ _).alloc (Nat.le_refl _) _
theorem Gr.le (h : Gr w w') : w.heap.size ≤ w'.heap.size := h.size
theorem Gr.below_trans {B : Nat} {a : World} (h : Below B a w) (hB : B ≤ w.heap.size) (g : Gr w w') : Below B a w' := h.trans (Below.mono g hB)
theorem Gr.store {w0 : World} {b : Nat} (h : Gr w0 w) (hg : w.grownBy w' (some b)) (hb : w0.heap.size ≤ b) : Gr w0 w' :=
  Below.grown h hg h.size (fun k hk => by injection hk with hk; omega)
theorem Gr.below {B : Nat} {w0 : World} (h : Gr w0 w) (hb : Below B w w') (hB : w0.heap.size ≤ B) : Gr w0 w' := Below.trans h (Below.mono hb hB)
theorem Gr.grown (h : Gr w w') : w.grownBy w' none := ⟨h.os, h.tape, h.output, h.size, fun k hk _ => h.block k hk⟩
theorem Gr.of_grown (h : w.grownBy w' none) : Gr w w' := ⟨h.os, h.tape, h.output, h.size, fun k hk => h.block k hk (by simp)⟩
theorem Blk.new (w : World) (t : TypeId) (l : List Value) : Blk (w.alloc (.cells l.toArray t)) w.heap.size t l := heap_alloc_new w _
theorem Blk.set_ (h : Blk w b t l) (i : Nat) (v : Value) : Blk (w.setCell ⟨b, i, none⟩ v) b t (l.set i v) := by
  unfold Blk
  rw [heap_setCell_same w b i l.toArray t v h]
  simp
theorem grown_setCell (w : World) (b i : Nat) (v : Value) : w.grownBy (w.setCell ⟨b, i, none⟩ v) (some b) :=
  ⟨rfl, rfl, rfl, by simp, fun k _ hne => heap_setCell_other w _ k v (fun e => hne (by rw [e]))⟩
theorem grown_trans_ {a b c : World} {row : Option Nat} (h : a.grownBy b row) (k : b.grownBy c row) : a.grownBy c row :=
  ⟨k.os.trans h.os, k.tape.trans h.tape, k.output.trans h.output, Nat.le_trans h.size k.size, fun i hi hne => (k.block i (Nat.lt_of_lt_of_le hi h.size) hne).trans (h.block i hi hne)⟩
end

section
variable {P : Program} {ops : Array Oper} {Q : (Nat → Value) → World → Prop} {e : Nat → Value} {w : World} {rest : List Oper}
theorem addr_add (b o n : Nat) : (⟨b, o, none⟩ : Addr).add n = ⟨b, o + n, none⟩ := by
  unfold Addr.add
  split
  · rename_i h; subst h; rfl
  · rfl

theorem RW_t {o : Oper} (h : wE ops e o = true) : RW P ops Q (o :: rest) e w = opNext P e o w (fun v w' => RW P ops Q rest (updO e o.dst v) w') := by rw [RW]; exact if_pos h
theorem RW_f {o : Oper} (h : wE ops e o = false) : RW P ops Q (o :: rest) e w = RW P ops Q rest (updO e o.dst undef) w := by rw [RW]; exact if_neg (by simp [h])
theorem RQ_t {C : World → Prop} {Qq : (Nat → Value) → Prop} {o : Oper} (h : wE ops e o = true) : RQ P ops C Qq (o :: rest) e = ∃ v, opQuiet P C e o v ∧ RQ P ops C Qq rest (updO e o.dst v) := by rw [RQ]; exact if_pos h
theorem RQ_f {C : World → Prop} {Qq : (Nat → Value) → Prop} {o : Oper} (h : wE ops e o = false) : RQ P ops C Qq (o :: rest) e = RQ P ops C Qq rest (updO e o.dst undef) := by rw [RQ]; exact if_neg (by simp [h])
/-! ### Steps: in order -/
theorem rw_nil (h : Q e w) : RW P ops Q [] e w := h
theorem rw_on {d : Option Tmp} {op : Op} {ty : TypeId} {ps : String} {af : Array Edge} {j : Nat} {b : Bool} (h : yE ops e j = some b) (hr : RW P ops Q (⟨d, op, ty, ps, af, none⟩ :: rest) e w) : RW P ops Q (⟨d, op, ty, ps, af, some (j, b)⟩ :: rest) e w := by
  rw [RW_t rfl] at hr
  rw [RW_t (by simp [wE, h])]
  exact hr
theorem rw_off {d : Option Tmp} {op : Op} {ty : TypeId} {ps : String} {af : Array Edge} {j : Nat} {b : Bool} (h : (yE ops e j == some b) = false) (hr : RW P ops Q rest (updO e d undef) w) : RW P ops Q (⟨d, op, ty, ps, af, some (j, b)⟩ :: rest) e w := by
  rw [RW_f (by simp [wE, h])]
  exact hr
/-- A Bool in a slot, decided. -/
theorem rw_dec {l : List Oper} (d : Nat) {B : Bool} (hB : e d = .bool B) (ht : B = true → RW P ops Q l (upd e d (.bool true)) w) (hf : B = false → RW P ops Q l (upd e d (.bool false)) w) : RW P ops Q l e w := by
  cases B
  · have := hf rfl; rwa [upd_self hB] at this
  · have := ht rfl; rwa [upd_self hB] at this
theorem rw_r {d : Option Tmp} {op : Op} {ty : TypeId} {ps : String} {af : Array Edge} {v : Value} (h : OpR P e ⟨d, op, ty, ps, af, none⟩ w v) (hr : RW P ops Q rest (updO e d v) w) : RW P ops Q (⟨d, op, ty, ps, af, none⟩ :: rest) e w := by
  rw [RW_t rfl, opNext]
  unfold OpR at h
  rw [h]
  exact hr
theorem rw_v {d : Option Tmp} {op : Op} {ty : TypeId} {ps : String} {af : Array Edge} {v : Value} (h : OpV P e ⟨d, op, ty, ps, af, none⟩ v) (hr : RW P ops Q rest (updO e d v) w) : RW P ops Q (⟨d, op, ty, ps, af, none⟩ :: rest) e w := rw_r (h w) hr
/-- what is left, behind a name for the frame -/
theorem rw_cut {l : List Oper} (M : (Nat → Value) → World → Prop) (h0 : M e w) (h : ∀ e' w', M e' w' → RW P ops Q l e' w') : RW P ops Q l e w := h _ _ h0
/-- An operation that leaves another world. -/
theorem rw_w {d : Option Tmp} {op : Op} {ty : TypeId} {ps : String} {af : Array Edge} {v : Value} {w' : World} (h : (execOp (ev e) ⟨d, op, ty, ps, af, none⟩).run P w = .ok (.value v) w') (hr : RW P ops Q rest (updO e d v) w') : RW P ops Q (⟨d, op, ty, ps, af, none⟩ :: rest) e w := by
  rw [RW_t rfl, opNext]
  rw [h]
  exact hr
theorem rw_s {d : Option Tmp} {op : Op} {ty : TypeId} {ps : String} {af : Array Edge} {w' : World} (h : (execOp (ev e) ⟨d, op, ty, ps, af, none⟩).run P w = .ok .skip w') (hr : RW P ops Q rest (updO e d undef) w') : RW P ops Q (⟨d, op, ty, ps, af, none⟩ :: rest) e w := by
  rw [RW_t rfl, opNext]
  rw [h]
  exact hr
/-- A new block of cells. -/
theorem rw_new {d : Option Tmp} {op : Op} {ty : TypeId} {ps : String} {af : Array Edge} {v : Value} {l : List Value} {t : TypeId} (h : (execOp (ev e) ⟨d, op, ty, ps, af, none⟩).run P w = .ok (.value v) (w.alloc (.cells l.toArray t)))
    (hr : ∀ w', Gr w w' → w'.heap.size = w.heap.size + 1 → Blk w' w.heap.size t l → RW P ops Q rest (updO e d v) w') : RW P ops Q (⟨d, op, ty, ps, af, none⟩ :: rest) e w :=
  rw_w h (hr _ (Gr.alloc _ _) (by simp) (Blk.new _ _ _))

/-! ### Steps: in whatever order -/
variable {C : World → Prop} {Qq : (Nat → Value) → Prop}
theorem rq_nil (h : Qq e) : RQ P ops C Qq [] e := h
theorem rq_on {d : Option Tmp} {op : Op} {ty : TypeId} {ps : String} {af : Array Edge} {j : Nat} {b : Bool} (h : yE ops e j = some b) (hr : RQ P ops C Qq (⟨d, op, ty, ps, af, none⟩ :: rest) e) : RQ P ops C Qq (⟨d, op, ty, ps, af, some (j, b)⟩ :: rest) e := by
  rw [RQ_t rfl] at hr
  rw [RQ_t (by simp [wE, h])]
  exact hr
theorem rq_off {d : Option Tmp} {op : Op} {ty : TypeId} {ps : String} {af : Array Edge} {j : Nat} {b : Bool} (h : (yE ops e j == some b) = false) (hr : RQ P ops C Qq rest (updO e d undef)) : RQ P ops C Qq (⟨d, op, ty, ps, af, some (j, b)⟩ :: rest) e := by
  rw [RQ_f (by simp [wE, h])]
  exact hr
theorem rq_dec {l : List Oper} (d : Nat) {B : Bool} (hB : e d = .bool B) (ht : B = true → RQ P ops C Qq l (upd e d (.bool true))) (hf : B = false → RQ P ops C Qq l (upd e d (.bool false))) : RQ P ops C Qq l e := by
  cases B
  · have := hf rfl; rwa [upd_self hB] at this
  · have := ht rfl; rwa [upd_self hB] at this
theorem rq_r {d : Option Tmp} {op : Op} {ty : TypeId} {ps : String} {af : Array Edge} {v : Value} (h : ∀ w, C w → OpR P e ⟨d, op, ty, ps, af, none⟩ w v) (hr : RQ P ops C Qq rest (updO e d v)) : RQ P ops C Qq (⟨d, op, ty, ps, af, none⟩ :: rest) e := by
  rw [RQ_t rfl]
  refine ⟨v, fun w hw => ?_, hr⟩
  have := h w hw
  unfold OpR at this
  rw [this]
  exact ⟨rfl, rfl⟩
theorem rq_v {d : Option Tmp} {op : Op} {ty : TypeId} {ps : String} {af : Array Edge} {v : Value} (h : OpV P e ⟨d, op, ty, ps, af, none⟩ v) (hr : RQ P ops C Qq rest (updO e d v)) : RQ P ops C Qq (⟨d, op, ty, ps, af, none⟩ :: rest) e := rq_r (fun w _ => h w) hr

/-! ### The operations -/
variable {d : Option Tmp} {ty : TypeId} {ps : String} {af : Array Edge}
/-- A sum that fits: its wrap struck. -/
theorem op_rng {op : Op} {n : Int} (h : pureV (ev e) op = some (.int .i64 (IntKind.i64.wrap n))) (hr : -9223372036854775808 ≤ n ∧ n ≤ 9223372036854775807) : OpV P e ⟨d, op, ty, ps, af, none⟩ (.int .i64 n) := by
  have := op_pure (P := P) (e := e) (o := ⟨d, op, ty, ps, af, none⟩) h
  rwa [IntWalk.i64_in _ hr] at this
theorem op_b {op : Op} {B b : Bool} (h : pureV (ev e) op = some (.bool B)) (hr : B = b) : OpV P e ⟨d, op, ty, ps, af, none⟩ (.bool b) := by
  subst hr; exact op_pure h
theorem op_div {t t' : TypeId} {x y : Operand} {a b : Int} (hx : ev e x = .int .i64 a) (hy : ev e y = .int .i64 b) (ha : 0 ≤ a ∧ a ≤ 9223372036854775807) (hb : 0 < b) : OpV P e ⟨d, .binOp .quo t x y t', ty, ps, af, none⟩ (.int .i64 (a / b)) := by
  intro w
  have h1 : a.tdiv b = a / b := Int.tdiv_eq_ediv_of_nonneg ha.1
  have h2 : a / b ≤ a := Int.ediv_le_self _ ha.1
  have h3 : 0 ≤ a / b := Int.ediv_nonneg ha.1 (by omega)
  have h4 : b ≠ 0 := by omega
  have h5 : IntKind.i64.wrap (a / b) = a / b := IntWalk.i64_in _ ⟨by omega, by omega⟩
  simp [OpR, execOp, hx, hy, eqGuard, binOp, Op.intDiv, h4, h1, h5]
theorem op_rem {t t' : TypeId} {x y : Operand} {a b : Int} (hx : ev e x = .int .i64 a) (hy : ev e y = .int .i64 b) (ha : 0 ≤ a) (hb : 0 < b) : OpV P e ⟨d, .binOp .rem t x y t', ty, ps, af, none⟩ (.int .i64 (a % b)) := by
  intro w
  have h1 : a.tmod b = a % b := Int.tmod_eq_emod_of_nonneg ha
  have h4 : b ≠ 0 := by omega
  simp [OpR, execOp, hx, hy, eqGuard, binOp, Op.intDiv, h4, h1]
def aggD : TypeDesc → Bool
  | .struct _ | .array _ _ => true
  | _ => false
theorem run_isAgg_E {t : TypeId} {dd : TypeDesc} (hu : P.underlying t = some dd) (w : World) : (isAgg t).run P w = .ok (aggD dd) w := by
  unfold isAgg
  simp [run_underlying hu]
  cases dd <;> rfl
/-- a load of one cell -/
theorem op_load {t : TypeId} {x : Operand} {b o : Nat} {dd : TypeDesc} {v : Value} (hu : P.underlying t = some dd) (hd : aggD dd = false) (hx : ev e x = .pointer (some ⟨b, o, none⟩)) (hc : w.cell? ⟨b, o, none⟩ = some v) : OpR P e ⟨d, .load t x, ty, ps, af, none⟩ w v := by
  simp [OpR, execOp, hx, Instr.loadAt, Instr.sureAddr, loadVar, run_isAgg_E hu, hd, hc]
/-- .. out of a block that is known -/
theorem op_loadB {t tb : TypeId} {x : Operand} {b o : Nat} {dd : TypeDesc} {v : Value} {l : List Value} (hu : P.underlying t = some dd) (hd : aggD dd = false) (hx : ev e x = .pointer (some ⟨b, o, none⟩)) (hB : Blk w b tb l) (hl : l[o]? = some v) : OpR P e ⟨d, .load t x, ty, ps, af, none⟩ w v :=
  op_load hu hd hx (hB.cellv hl)
theorem run_loadCells_E {a : Addr} {n : Nat} {cs : List Value} (hn : cs.length = n) (h : ∀ j v, cs[j]? = some v → w.cell? (a.add j) = some v) : (loadCells a n).run P w = .ok cs.toArray w := by
  subst hn; exact run_loadCells_list (P := P) w a cs h
/-- a load of a struct -/
theorem op_loadA {t : TypeId} {x : Operand} {b o n : Nat} {dd : TypeDesc} {cs : List Value} (hu : P.underlying t = some dd) (hd : aggD dd = true) (hz : (sizeOf t).run P w = .ok n w) (hx : ev e x = .pointer (some ⟨b, o, none⟩)) (hn : cs.length = n)
    (hc : ∀ j v, cs[j]? = some v → w.cell? ⟨b, o + j, none⟩ = some v) : OpR P e ⟨d, .load t x, ty, ps, af, none⟩ w (.agg cs.toArray) := by
  have h1 := run_loadCells_E (P := P) (w := w) (a := ⟨b, o, none⟩) hn (fun j v h => by rw [addr_add]; exact hc j v h)
  simp [OpR, execOp, hx, Instr.loadAt, Instr.sureAddr, loadVar, run_isAgg_E hu, hd, hz, h1]
theorem op_loadAB {t tb : TypeId} {x : Operand} {b o n : Nat} {dd : TypeDesc} {cs l : List Value} (hu : P.underlying t = some dd) (hd : aggD dd = true) (hz : (sizeOf t).run P w = .ok n w) (hx : ev e x = .pointer (some ⟨b, o, none⟩)) (hB : Blk w b tb l)
    (hl : fzl ((l.drop o).take n) = some cs) (hn : cs.length = n) : OpR P e ⟨d, .load t x, ty, ps, af, none⟩ w (.agg cs.toArray) :=
  op_loadA hu hd hz hx hn fun j v h => hB.cellv (by
    rw [← fzl_eq hl] at h
    rw [List.getElem?_take] at h
    split at h
    · rwa [List.getElem?_drop] at h
    · cases h)
theorem op_fieldAddr {t : TypeId} {x : Operand} {f b o n : Nat} {fs : Array Field} {fd : Field} (hu : P.underlying t = some (.struct fs)) (hf : fs[f]? = some fd) (hz : ∀ w, (sizeOf fd.type).run P w = .ok n w) (hn : Nat.beq n 0 = false) (hx : ev e x = .pointer (some ⟨b, o, none⟩)) :
    OpV P e ⟨d, .fieldAddr t x f, ty, ps, af, none⟩ (.pointer (some ⟨b, o + fd.offset, none⟩)) := by
  intro w
  have h0 : n ≠ 0 := by rintro rfl; cases hn
  simp [OpR, execOp, hx, Instr.fieldAt, Instr.sureAddr, run_underlying hu, hf, fieldPlace, hz, h0, addr_add]
theorem op_field {t : TypeId} {x : Operand} {f : Nat} {fs : Array Field} {fd : Field} {dd : TypeDesc} {cs : List Value} {v : Value} (hu : P.underlying t = some (.struct fs)) (hf : fs[f]? = some fd) (hd : P.underlying fd.type = some dd) (ha : aggD dd = false) (hx : ev e x = .agg cs.toArray) (hv : cs[fd.offset]? = some v) :
    OpV P e ⟨d, .field t x f, ty, ps, af, none⟩ v := by
  intro w
  simp [OpR, execOp, hx, Instr.field, asAgg, run_underlying hu, hf, part, run_isAgg_E hd, ha, hv]
theorem op_indexAddr {t el : TypeId} {x i : Operand} {b o len cap k : Nat} {kd : IntKind} {n : Int} (hu : P.underlying t = some (.slice el)) (hz : ∀ w, (sizeOf el).run P w = .ok k w) (hx : ev e x = .slice (some ⟨b, o, none⟩) len cap) (hi : ev e i = .int kd n) (h0 : 0 ≤ n) (h1 : n < len) :
    OpV P e ⟨d, .indexAddr t x i, ty, ps, af, none⟩ (.pointer (some ⟨b, o + n.toNat * k, none⟩)) := by
  intro w
  simp [OpR, execOp, hx, hi, Instr.indexAt, asIntOf, run_underlying hu, hz, h0, h1, addr_add]
theorem op_len {t el : TypeId} {x : Operand} {A : Option Addr} {n c : Nat} (hu : P.underlying t = some (.slice el)) (hx : ev e x = .slice A n c) : OpV P e ⟨d, .call ⟨.builtin .len, #[x], #[t]⟩, ty, ps, af, none⟩ (.int .i64 n) := by
  intro w
  simp [OpR, execOp, hx, resolve, invoke, builtin, Builtin.len_, run_underlying hu, goInt]
theorem op_conv {s t : TypeId} {x : Operand} {ks kd : IntKind} {n m : Int} {dd : TypeDesc} (hs : P.underlying s = some dd) (hd : P.underlying t = some (.int kd)) (hx : ev e x = .int ks n) (hm : kd.wrap n = m) : OpV P e ⟨d, .convert s t x, ty, ps, af, none⟩ (.int kd m) := by
  intro w
  simp [OpR, execOp, hx, convert, run_underlying hs, run_underlying hd, Conv.intToInt, hm]
def ifaceD : TypeDesc → Bool
  | .interface _ => true
  | _ => false
theorem op_iface {t : TypeId} {x : Operand} {dd : TypeDesc} {v : Value} (hu : P.underlying t = some dd) (hd : ifaceD dd = false) (hx : fz (ev e x) = some v) : OpV P e ⟨d, .makeInterface t x, ty, ps, af, none⟩ (.iface t v) := by
  intro w
  have := fz_eq hx
  subst this
  cases dd <;> first | (cases hd; done) | (simp [OpR, execOp, Instr.makeInterface, run_underlying hu])
theorem op_nilp {t t' te : TypeId} {x : Operand} {a : Option Addr} {B : Bool} (hu : P.underlying t = some (.pointer te)) (hx : ev e x = .pointer a) (hB : a.isNone = B) : OpV P e ⟨d, .binOp .eql t x (.const (.pointer none)) t', ty, ps, af, none⟩ (.bool B) := by
  intro w
  subst hB
  have h2 : ev e (.const (.pointer none)) = .pointer none := rfl
  have h3 : ∀ n : Nat, (Op.equalIn (n + 1) t (.pointer a) (.pointer none)).run P w = .ok a.isNone w := fun n => by
    unfold Op.equalIn
    cases a <;> simp [run_underlying hu]
  have h4 : (Op.equal t (.pointer a) (.pointer none)).run P w = .ok a.isNone w := h3 9999
  cases a <;> simp [OpR, execOp, hx, h2, eqGuard, binOp, h4]
theorem run_build_E {t : TypeId} (hb : ∀ w, (zeroValue t).run P w = .ok (.agg #[]) w) : True := trivial

/-! ### Memory -/
theorem op_box {t : TypeId} {x : Operand} {l : List Value} (hx : fzl (ev e x).cells.toList = some l) : (execOp (ev e) ⟨d, .box t x, ty, ps, af, none⟩).run P w = .ok (.value (.pointer (some ⟨w.heap.size, 0, none⟩))) (w.alloc (.cells l.toArray t)) := by
  have h := fzl_eq hx
  have h' : (ev e x).cells = l.toArray := by rw [← Array.toList_inj]; simpa using h
  simp [execOp, Instr.box, newVar, newRow, h']
theorem op_alloc {t : TypeId} {z : Value} {l : List Value} (hz : ∀ w, (zeroValue t).run P w = .ok z w) (hl : z.cells.toList = l) : (execOp (ev e) ⟨d, .alloc t, ty, ps, af, none⟩).run P w = .ok (.value (.pointer (some ⟨w.heap.size, 0, none⟩))) (w.alloc (.cells l.toArray t)) := by
  have h' : z.cells = l.toArray := by rw [← Array.toList_inj]; simpa using hl
  simp [execOp, Instr.alloc, hz, newVar, newRow, h']
/-- a store of one cell -/
theorem rw_store {t tb : TypeId} {x y : Operand} {b o : Nat} {l : List Value} {v u : Value} (hz : (sizeOf t).run P w = .ok 1 w) (hx : ev e x = .pointer (some ⟨b, o, none⟩)) (hy : fz (ev e y) = some v) (hv : v.oneCell' = true) (hvc : v.cells = #[v]) (hB : Blk w b tb l) (hl : l[o]? = some u)
    (hr : ∀ w', w.grownBy w' (some b) → w'.heap.size = w.heap.size → Blk w' b tb (l.set o v) → RW P ops Q rest (updO e d undef) w') : RW P ops Q (⟨d, .store t x y, ty, ps, af, none⟩ :: rest) e w := by
  have hy' := fz_eq hy
  refine rw_s (w' := w.setCell ⟨b, o, none⟩ v) ?_ (hr _ (grown_setCell _ _ _ _) (by simp) (hB.set_ o v))
  have hc := hB.cellv hl
  have hf := hB.free o
  have h1 := run_store P w ⟨b, o, none⟩ v .plain hv
  simp [execOp, hx, hy', hvc, Instr.storeAt, Instr.sureAddr, storeVar, hz, storeCells, h1, addr_add, stored, hc, hf]
end
end Go.Proofs.Ytbcgbcipigcbhaa
