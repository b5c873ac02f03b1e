/- Rows that may lie anywhere; arrays; bytes and strings. -/
import Derived.Test.YtbcgbcipigcbhaaMemC
import Derived.Laws.BytesString
namespace Go.Proofs.Ytbcgbcipigcbhaa
open Go.RowKit
set_option linter.unusedVariables false
set_option linter.unusedSimpArgs false

/-- what a slice's cells read -/
def Rd (w : World) (A : Option Addr) (xs : List Value) : Prop := xs = [] ∨ ∃ b o, A = some ⟨b, o, none⟩ ∧ b < w.heap.size ∧ ∀ (j : Nat) v, xs[j]? = some v → w.cell? ⟨b, o + j, none⟩ = some v
/-- a row of one-cell elements, whole -/
def R1 (w : World) (el : TypeId) (v : Value) (xs : List Value) : Prop := w.ownsRow 0 el 1 v xs.length xs
/-- What was there stands as it was, but for the blocks of F. -/
structure Fr (F : Nat → Prop) (w w' : World) : Prop where
  os : w'.os = w.os
  tape : w'.tape = w.tape
  output : w'.output = w.output
  size : w.heap.size ≤ w'.heap.size
  block : ∀ g, g < w.heap.size → ¬ F g → w'.heap[g]? = w.heap[g]?

section
variable {w w' w0 : World} {F F' : Nat → Prop}
theorem Fr.refl (F : Nat → Prop) (w : World) : Fr F w w := ⟨rfl, rfl, rfl, Nat.le_refl _, fun _ _ _ => rfl⟩
theorem Fr.of_gr (h : Gr w w') : Fr F w w' := ⟨h.os, h.tape, h.output, h.size, fun g hg _ => h.block g hg⟩
theorem Fr.of_grown {row : Option Nat} (h : w.grownBy w' row) (hF : ∀ g, row = some g → F g) : Fr F w w' := ⟨h.os, h.tape, h.output, h.size, fun g hg hn => h.block g hg (fun e => hn (hF g e.symm))⟩
theorem Fr.trans (h : Fr F w0 w) (k : Fr F' w w') (hF : ∀ g, F' g → F g ∨ w0.heap.size ≤ g) : Fr F w0 w' :=
  ⟨k.os.trans h.os, k.tape.trans h.tape, k.output.trans h.output, Nat.le_trans h.size k.size, fun g hg hn => (k.block g (Nat.lt_of_lt_of_le hg h.size) (fun e => (hF g e).elim hn (fun h => by omega))).trans (h.block g hg hn)⟩
theorem Fr.weak (h : Fr F w w') (hF : ∀ g, F g → F' g) : Fr F' w w' := ⟨h.os, h.tape, h.output, h.size, fun g hg hn => h.block g hg (fun e => hn (hF g e))⟩
theorem Fr.gr (h : Fr F w w') (hF : ∀ g, F g → w.heap.size ≤ g) : Gr w w' := (World.grownBy.mk h.os h.tape h.output h.size (fun g hg (_ : some g ≠ none) => h.block g hg (fun e => by have := hF g e; omega)) : w.grownBy w' none) |> Gr.of_grown
theorem Fr.then_gr (h : Fr F w0 w) (g : Gr w w') : Fr F w0 w' := h.trans (Fr.of_gr (F := fun _ => False) g) (fun _ h => h.elim)
theorem Blk.fr {b : Nat} {t : TypeId} {l : List Value} (h : Blk w b t l) (k : Fr F w w') (hn : ¬ F b) : Blk w' b t l := (k.block b h.lt hn).trans h
end

section
variable {w w' : World} {el : TypeId} {v : Value} {xs : List Value}
theorem R1.form (h : R1 w el v xs) : (v = .slice none 0 0 ∧ xs = []) ∨ ∃ g c l, v = .slice (some ⟨g, 0, none⟩) xs.length c ∧ Blk w g el l ∧ xs.length ≤ c ∧ l.length = c ∧ l.take xs.length = xs := by
  rcases h.2 with ⟨rfl, h2⟩ | ⟨g, cap, cur, hv, _, hh, hnc, _, hsz, ht⟩
  · exact .inl ⟨rfl, List.eq_nil_of_length_eq_zero h2⟩
  · exact .inr ⟨g, cap, cur.toList, hv, by unfold Blk; simpa using hh, hnc, by simpa using hsz, by simpa using ht⟩
theorem R1.slice (h : R1 w el v xs) : ∃ A c, v = .slice A xs.length c := by
  rcases h.form with ⟨rfl, rfl⟩ | ⟨g, c, l, rfl, _⟩
  · exact ⟨_, _, rfl⟩
  · exact ⟨_, _, rfl⟩
theorem R1.keep (h : R1 w el v xs) (hk : ∀ g, v.ownBlock = some g → w'.heap[g]? = w.heap[g]?) : R1 w' el v xs := by
  obtain ⟨h1, h2⟩ := h
  refine ⟨h1, ?_⟩
  rcases h2 with h2 | ⟨g, cap, cur, rfl, hg, hh, r⟩
  · exact .inl h2
  · exact .inr ⟨g, cap, cur, rfl, hg, (hk g rfl).trans hh, r⟩
theorem R1.lt (h : R1 w el v xs) {g : Nat} (hg : v.ownBlock = some g) : g < w.heap.size := by
  rcases h.form with ⟨rfl, _⟩ | ⟨g', c, l, rfl, hB, _⟩
  · cases hg
  · injection hg with hg; subst hg; exact hB.lt
theorem R1.fr {F : Nat → Prop} (h : R1 w el v xs) (k : Fr F w w') (hn : ∀ g, v.ownBlock = some g → ¬ F g) : R1 w' el v xs := h.keep fun g hg => k.block g (h.lt hg) (hn g hg)
theorem R1.gr (h : R1 w el v xs) (k : Gr w w') : R1 w' el v xs := h.keep fun g hg => k.block g (h.lt hg)
theorem R1.rd {A : Option Addr} {n c : Nat} (h : R1 w el (.slice A n c) xs) : Rd w A xs := by
  rcases h.form with ⟨hv, rfl⟩ | ⟨g, c', l, hv, hB, hc, hl, ht⟩
  · exact .inl rfl
  · injection hv with hA
    refine .inr ⟨g, 0, hA, hB.lt, fun j v hj => ?_⟩
    rw [Nat.zero_add]
    refine hB.cellv ?_
    rw [← ht, List.getElem?_take] at hj
    split at hj
    · exact hj
    · cases hj
theorem R1.nil (w : World) (el : TypeId) : R1 w el (.slice none 0 0) [] := World.ownsRow_nil _ _ _ _
theorem R1.new (w : World) (el : TypeId) (l : List Value) (hn : l.length ≤ maxLen) : R1 (w.alloc (.cells l.toArray el)) el (.slice (some ⟨w.heap.size, 0, none⟩) l.length l.length) l :=
  ⟨by simp, .inr ⟨w.heap.size, l.length, l.toArray, rfl, by omega, heap_alloc_new w _, Nat.le_refl _, hn, by simp, by simp⟩⟩
theorem R1.of_blk {g : Nat} {l : List Value} (hB : Blk w g el l) (hn : l.length ≤ maxLen) : R1 w el (.slice (some ⟨g, 0, none⟩) l.length l.length) l :=
  ⟨by simp, .inr ⟨g, l.length, l.toArray, rfl, by omega, hB, Nat.le_refl _, hn, by simp, by simp⟩⟩
theorem Rd.fr {F : Nat → Prop} {A : Option Addr} (h : Rd w A xs) (k : Fr F w w') (hn : ∀ a, A = some a → ¬ F a.block) : Rd w' A xs := by
  rcases h with h | ⟨b, o, rfl, hb, h⟩
  · exact .inl h
  · exact .inr ⟨b, o, rfl, Nat.lt_of_lt_of_le hb k.size, fun j v hj => by rw [World.cell?_of_block (w := w) (a := ⟨b, o + j, none⟩) (k.block b hb (hn ⟨b, o, none⟩ rfl))]; exact h j v hj⟩
theorem Rd.gr {A : Option Addr} (h : Rd w A xs) (k : Gr w w') : Rd w' A xs := h.fr (Fr.of_gr (F := fun _ => False) k) (fun _ _ h => h)
end

section
variable {P : Program} {ops : Array Oper} {Q : (Nat → Value) → World → Prop} {e : Nat → Value} {w : World} {rest : List Oper}
variable {d : Option Tmp} {ty : TypeId} {ps : String} {af : Array Edge}
theorem op_app {s x : Operand} {t el : TypeId} {bytes m c2 : Nat} {A : Option Addr} {z v : Value} {xs ys : List Value}
    (hu : P.underlying t = some (.slice el)) (hI : (P.info? el).map (fun i => (i.zero, i.size, i.bytes)) = some (some z, 1, bytes)) (hz : Nat.beq z.cells.size 1 = true)
    (hs : ev e s = v) (hown : R1 w el v xs) (hx : ev e x = .slice A m c2) (hm : m = ys.length) (hc0 : A = none → c2 = 0) (hR : Rd w A ys) (h1 : (ys.all fun v => v.oneCell') = true)
    (hb : (xs.length + ys.length) * (bytes + 1) ≤ 140737488355328) :
    ∃ w', ∃ v', (execOp (ev e) ⟨d, .call ⟨.builtin .append, #[s, x], #[t, t]⟩, ty, ps, af, none⟩).run P w = .ok (.value v') w' ∧ R1 w' el v' (xs ++ ys) ∧ w.grownBy w' v.ownBlock ∧ (v'.ownBlock = v.ownBlock ∨ v'.ownBlock = some w.heap.size) := by
  obtain ⟨i, hi, hz0, hz1, hz2⟩ := info_parts hI
  have hz' := Nat.eq_of_beq_eq_true hz
  have hb1 : (xs.length + ys.length) * bytes ≤ 140737488355328 := Nat.le_trans (Nat.mul_le_mul_left _ (by omega)) hb
  have hb2 : xs.length + ys.length ≤ 140737488355328 := Nat.le_trans (Nat.le_mul_of_pos_right _ (by omega)) hb
  subst hm
  have hR' : (A = none ∧ ys = []) ∨ ∃ a, A = some a ∧ ∀ (j : Nat) u, ys[j]? = some u → w.cell? (a.add j) = some u := by
    rcases hR with rfl | ⟨b, o, rfl, hlt, hc⟩
    · cases A with
      | none => exact .inl ⟨rfl, rfl⟩
      | some a => exact .inr ⟨a, rfl, fun j u hu => by cases hu⟩
    · exact .inr ⟨_, rfl, fun j u hu => by rw [addr_add]; exact hc j u hu⟩
  rcases hR' with ⟨rfl, rfl⟩ | ⟨a, rfl, hc⟩
  · have := run_append_owned_none (P := P) (w := w) 0 t ty el i 1 hu hi v xs.length xs hown
    have hc0 := hc0 rfl
    subst hc0
    refine ⟨w, v, ?_, by simpa using hown, World.grownBy.refl _ _, .inl rfl⟩
    simp at hx
    simp [execOp, resolve, invoke, builtin, hs, hx, this]
  · obtain ⟨v', w', hrun, ho, hg, _, hob⟩ := run_append_own_at (P := P) w 0 t ty el i z 1 bytes hu hi hz0 hz1 hz2 hz' (by omega) v xs.length xs hown a ys.length c2 ys (by omega)
      hc (fun u hu => List.all_eq_true.1 h1 u hu) (by unfold maxLen; omega) hb1 (by omega)
    refine ⟨w', v', ?_, by unfold R1; rw [List.length_append]; exact ho, hg, hob⟩
    simp [execOp, resolve, invoke, builtin, hs, hx, hrun]
theorem rw_app {s x : Operand} {t el : TypeId} {bytes m c2 : Nat} {A : Option Addr} {z v : Value} {xs ys : List Value}
    (hu : P.underlying t = some (.slice el)) (hI : (P.info? el).map (fun i => (i.zero, i.size, i.bytes)) = some (some z, 1, bytes)) (hz : Nat.beq z.cells.size 1 = true)
    (hs : ev e s = v) (hown : R1 w el v xs) (hx : ev e x = .slice A m c2) (hm : m = ys.length) (hc0 : A = none → c2 = 0) (hR : Rd w A ys) (h1 : (ys.all fun v => v.oneCell') = true)
    (hb : (xs.length + ys.length) * (bytes + 1) ≤ 140737488355328)
    (hr : ∀ v' w', R1 w' el v' (xs ++ ys) → w.grownBy w' v.ownBlock → (v'.ownBlock = v.ownBlock ∨ v'.ownBlock = some w.heap.size) → RW P ops Q rest (updO e d v') w') :
    RW P ops Q (⟨d, .call ⟨.builtin .append, #[s, x], #[t, t]⟩, ty, ps, af, none⟩ :: rest) e w := by
  obtain ⟨w', v', h1, h2, h3, h4⟩ := op_app (P := P) (d := d) (ty := ty) (ps := ps) (af := af) hu hI hz hs hown hx hm hc0 hR h1 hb
  exact rw_w h1 (hr v' w' h2 h3 h4)
theorem to_app {s x : Operand} {t el : TypeId} {bytes m c2 : Nat} {A : Option Addr} {z v : Value} {xs ys : List Value} {R : Value → World → Prop}
    (hu : P.underlying t = some (.slice el)) (hI : (P.info? el).map (fun i => (i.zero, i.size, i.bytes)) = some (some z, 1, bytes)) (hz : Nat.beq z.cells.size 1 = true)
    (hs : ev e s = v) (hown : R1 w el v xs) (hx : ev e x = .slice A m c2) (hm : m = ys.length) (hc0 : A = none → c2 = 0) (hR : Rd w A ys) (h1 : (ys.all fun v => v.oneCell') = true)
    (hb : (xs.length + ys.length) * (bytes + 1) ≤ 140737488355328)
    (hr : ∀ v' w', R1 w' el v' (xs ++ ys) → w.grownBy w' v.ownBlock → (v'.ownBlock = v.ownBlock ∨ v'.ownBlock = some w.heap.size) → R v' w') :
    opTo P e ⟨d, .call ⟨.builtin .append, #[s, x], #[t, t]⟩, ty, ps, af, none⟩ w R := by
  obtain ⟨w', v', h1, h2, h3, h4⟩ := op_app (P := P) (d := d) (ty := ty) (ps := ps) (af := af) hu hI hz hs hown hx hm hc0 hR h1 hb
  exact to_w h1 (hr v' w' h2 h3 h4)
theorem op_indexAddrP {t el : TypeId} {x i : Operand} {b o len k : Nat} {kd : IntKind} {n : Int} (hu : P.underlying t = some (.array len el)) (hz : ∀ w, (sizeOf el).run P w = .ok k w) (hx : ev e x = .pointer (some ⟨b, o, none⟩)) (hi : ev e i = .int kd n) (h0 : 0 ≤ n) (h1 : n < len) :
    OpV P e ⟨d, .indexAddr t x i, ty, ps, af, none⟩ (.pointer (some ⟨b, o + n.toNat * k, none⟩)) := by
  intro w
  simp [OpR, execOp, hx, hi, Instr.indexAt, Instr.sureAddr, asIntOf, run_underlying hu, hz, h0, h1, addr_add]
theorem op_indexAddrQ {t el : TypeId} {x i : Operand} {b o len k o' : Nat} {kd : IntKind} {n : Int} (hu : P.underlying t = some (.array len el)) (hz : ∀ w, (sizeOf el).run P w = .ok k w) (hx : ev e x = .pointer (some ⟨b, o, none⟩)) (hi : ev e i = .int kd n) (h0 : 0 ≤ n) (h1 : n < len) (hk : o + n.toNat * k = o') :
    OpV P e ⟨d, .indexAddr t x i, ty, ps, af, none⟩ (.pointer (some ⟨b, o', none⟩)) := hk ▸ op_indexAddrP hu hz hx hi h0 h1
theorem op_indexAddrS {t el : TypeId} {x i : Operand} {b o len cap k o' : Nat} {kd : IntKind} {n : Int} (hu : P.underlying t = some (.slice el)) (hz : ∀ w, (sizeOf el).run P w = .ok k w) (hx : ev e x = .slice (some ⟨b, o, none⟩) len cap) (hi : ev e i = .int kd n) (h0 : 0 ≤ n) (h1 : n < len) (hk : o + n.toNat * k = o') :
    OpV P e ⟨d, .indexAddr t x i, ty, ps, af, none⟩ (.pointer (some ⟨b, o', none⟩)) := hk ▸ op_indexAddr hu hz hx hi h0 h1
theorem op_indexV {t el : TypeId} {x i : Operand} {len k : Nat} {kd : IntKind} {n : Int} {cs : List Value} {dd : TypeDesc} {v : Value} (hu : P.underlying t = some (.array len el)) (hd : P.underlying el = some dd) (hz : ∀ w, (sizeOf el).run P w = .ok k w) (ha : aggD dd = false) (hx : ev e x = .agg cs.toArray) (hi : ev e i = .int kd n) (h0 : 0 ≤ n) (h1 : n < len)
    (hv : cs[n.toNat * k]? = some v) : OpV P e ⟨d, .index t x i, ty, ps, af, none⟩ v := by
  intro w
  simp [OpR, execOp, hx, hi, Instr.index, asIntOf, run_underlying hu, hz, h0, h1, part, run_isAgg_E hd, ha, hv]
theorem op_nils {t t' te : TypeId} {x : Operand} {a : Option Addr} {n c : Nat} {B : Bool} (hu : P.underlying t = some (.slice te)) (hx : ev e x = .slice a n c) (hB : a.isNone = B) : OpV P e ⟨d, .binOp .eql t x (.const (.slice none 0 0)) t', ty, ps, af, none⟩ (.bool B) := by
  intro w
  subst hB
  have h2 : ev e (.const (.slice none 0 0)) = .slice none 0 0 := rfl
  have h3 : ∀ n' : Nat, (Op.equalIn (n' + 1) t (.slice a n c) (.slice none 0 0)).run P w = .ok a.isNone w := fun n' => by
    unfold Op.equalIn
    cases a <;> simp [run_underlying hu]
  have h4 : (Op.equal t (.slice a n c) (.slice none 0 0)).run P w = .ok a.isNone w := h3 9999
  cases a <;> simp [OpR, execOp, hx, h2, eqGuard, binOp, h4]
theorem op_nilpn {t t' te : TypeId} {x : Operand} {a : Option Addr} {B : Bool} (hu : P.underlying t = some (.pointer te)) (hx : ev e x = .pointer a) (hB : a.isSome = B) : OpV P e ⟨d, .binOp .neq t x (.const (.pointer none)) t', ty, ps, af, none⟩ (.bool B) := by
  intro w
  subst hB
  have h2 : ev e (.const (.pointer none)) = .pointer none := rfl
  have h3 : ∀ n : Nat, (Op.equalIn (n + 1) t (.pointer a) (.pointer none)).run P w = .ok a.isNone w := fun n => by
    unfold Op.equalIn
    cases a <;> simp [run_underlying hu]
  have h4 : (Op.equal t (.pointer a) (.pointer none)).run P w = .ok a.isNone w := h3 9999
  cases a <;> simp [OpR, execOp, hx, h2, eqGuard, binOp, h4]
/-- a method value of a receiver that is no pointer -/
theorem op_ncm {x : Operand} {m : String} {t : TypeId} {u : Value} (hx : ev e x = .func (.method m) #[.iface t u] #[]) (hn : ∀ w, (nilAhead (P.types.size + Made.depth) t u m).run P w = .ok (some false) w) : OpV P e ⟨d, .nilCheck x, ty, ps, af, none⟩ (.func (.method m) #[.iface t u] #[]) := by
  intro w
  simp [OpR, execOp, hx, hn]
/-- a slice's literal without elements -/
theorem op_build0 {t el : TypeId} {k : Nat} (hu : P.underlying t = some (.slice el)) (hs : ∀ w, (sizeOf el).run P w = .ok k w) :
    (execOp (ev e) ⟨d, .buildSlice t 0 #[], ty, ps, af, none⟩).run P w = .ok (.value (.slice (some ⟨w.heap.size, 0, none⟩) 0 0)) (w.alloc (.cells ([] : List Value).toArray el)) := by
  have h0 : Array.range 0 = #[] := Array.eq_empty_of_size_eq_zero (by simp)
  simp [execOp, Instr.buildSlice, run_underlying hu, hs, newRow, Instr.fill, h0]
/-- a string of a slice's bytes -/
def strOf (bs : List Int) : ByteArray := bs.foldl (fun r n => r.push (UInt8.ofNat n.toNat)) ByteArray.empty
def c8 (bs : List Int) : List Value := bs.map (Value.int .u8)
theorem op_str {t t' el : TypeId} {x : Operand} {A : Option Addr} {c : Nat} {bs : List Int} (hs : P.underlying t = some (.slice el)) (he : P.underlying el = some (.int .u8)) (hd : P.underlying t' = some .string) (hx : ev e x = .slice A bs.length c) (hR : Rd w A (c8 bs)) :
    OpR P e ⟨d, .convert t t' x, ty, ps, af, none⟩ w (.string (strOf bs)) := by
  have h1 := run_convert_bytes_string (P := P) w t t' el A bs.length c hs he hd
  rcases hR with hn | ⟨b, o, rfl, _, hc⟩
  · have : bs = [] := by simpa [c8] using hn
    subst this
    have h2 : (Conv.bytesToString (.slice A ([] : List Int).length c)).run P w = .ok (.string ByteArray.empty) w := by
      cases A with
      | none => simp [Conv.bytesToString]
      | some a => exact run_bytesToString (P := P) w a 0 c [] (by simp [loadCells, loadCellsFrom])
    simp only [OpR, execOp, hx, Sem.run_bind, h1, h2]
    rfl
  · have hl : (loadCells ⟨b, o, none⟩ bs.length).run P w = .ok (bs.map (Value.int .u8)).toArray w := run_loadCells_E (by simp) (fun j v hj => by rw [addr_add]; exact hc j v hj)
    have h2 := run_bytesToString (P := P) w ⟨b, o, none⟩ bs.length c bs hl
    simp [OpR, execOp, hx, h1, h2, strOf]
theorem strOf_toList (bs : List Int) : (strOf bs).toList = bs.map fun n => UInt8.ofNat n.toNat := by
  have key : ∀ (bs : List Int) (s : ByteArray), (bs.foldl (fun r n => r.push (UInt8.ofNat n.toNat)) s).data = s.data ++ (bs.map fun n => UInt8.ofNat n.toNat).toArray := by
    intro bs
    induction bs with
    | nil => intro s; simp
    | cons b bs ih => intro s; rw [List.foldl_cons, ih]; simp [ByteArray.push]
  have h := key bs ByteArray.empty
  have h2 : ∀ s : ByteArray, s.toList = s.data.toList := fun s => ByteArray.toList_eq s
  rw [h2]
  unfold strOf
  rw [h]
  simp
theorem byte_inj {a b : Int} (ha : 0 ≤ a ∧ a < 256) (hb : 0 ≤ b ∧ b < 256) (h : UInt8.ofNat a.toNat = UInt8.ofNat b.toNat) : a = b := by
  have := congrArg UInt8.toNat h
  simp only [UInt8.toNat_ofNat'] at this
  omega
end
end Go.Proofs.Ytbcgbcipigcbhaa
