/- Slices of slices, make, copy. -/
import Derived.Test.YtbcgbcipigcbhaaTri
namespace Go.Proofs.Ytbcgbcipigcbhaa
open Go.RowKit
set_option linter.unusedVariables false
set_option linter.unusedSimpArgs false

section
variable {P : Program} {ops : Array Oper} {Q : (Nat → Value) → World → Prop} {e : Nat → Value} {w : World} {rest : List Oper}
variable {d : Option Tmp} {ty : TypeId} {ps : String} {af : Array Edge}
theorem storeCells_E {b tb o : Nat} (vs : List Value) : ∀ (i : Nat) (w : World) (l : List Value), Blk w b tb l → (∀ v ∈ vs, v.oneCell' = true) → o + i + vs.length ≤ l.length →
      ∃ w', (storeCells ⟨b, o, none⟩ vs i).run P w = .ok () w' ∧ w.grownBy w' (some b) ∧ w'.heap.size = w.heap.size ∧ Blk w' b tb (l.take (o + i) ++ vs ++ l.drop (o + i + vs.length)) := by
  induction vs with
  | nil => intro i w l hB _ hle; exact ⟨w, by simp [storeCells], World.grownBy.refl _ _, rfl, by simpa using hB⟩
  | cons v vs ih =>
    intro i w l hB hone hle
    simp only [List.length_cons] at hle
    have hv := hone v (by simp)
    have hc := hB.cellv (i := o + i) (v := l[o + i]'(by omega)) (List.getElem?_eq_getElem (by omega))
    have hf := hB.free (o + i)
    have h1 := run_store P w ⟨b, o + i, none⟩ v .plain hv
    obtain ⟨w', hw', hg', hs', hB'⟩ := ih (i + 1) _ _ (hB.set_ (o + i) v) (fun u hu => hone u (List.mem_cons_of_mem _ hu)) (by simp; omega)
    refine ⟨w', ?_, grown_trans_ (grown_setCell w b (o + i) v) hg', by simpa using hs', ?_⟩
    · simp [storeCells, addr_add, h1, stored, hc, hf, hw']
    · have e1 : o + (i + 1) = (o + i) + 1 := by omega
      rw [e1] at hB'
      rw [List.take_set, List.drop_set_of_lt (by omega), List.take_succ_eq_append_getElem (by omega), List.set_append_right _ _ (by simp; omega)] at hB'
      have h5 : o + i - (l.take (o + i)).length = 0 := by simp; omega
      rw [h5] at hB'
      have e2 : o + i + 1 + vs.length = o + i + (vs.length + 1) := by omega
      rw [e2] at hB'
      simpa using hB'
/-- copy -/
theorem op_copy {x y : Operand} {t t2 el tb tb' b o b' o' dl dc sl sc k n : Nat} {l l' news : List Value} (hu : P.underlying t = some (.slice el)) (hz : ∀ w, (sizeOf el).run P w = .ok k w) (hx : ev e x = .slice (some ⟨b, o, none⟩) dl dc) (hy : ev e y = .slice (some ⟨b', o', none⟩) sl sc)
    (hB : Blk w b tb l) (hB' : Blk w b' tb' l') (hn : min sl dl = n) (hnews : (l'.drop o').take (n * k) = news) (hlen : news.length = n * k) (ho : o + n * k ≤ l.length) (hone : ∀ v ∈ news, v.oneCell' = true) :
    ∃ w', (execOp (ev e) ⟨d, .call ⟨.builtin .copy, #[x, y], #[t, t2]⟩, ty, ps, af, none⟩).run P w = .ok (.value (.int .i64 n)) w' ∧ w.grownBy w' (some b) ∧ w'.heap.size = w.heap.size ∧ Blk w' b tb (l.take o ++ news ++ l.drop (o + n * k)) := by
  obtain ⟨w', hw', hg', hs', hB2⟩ := storeCells_E (P := P) (o := o) news 0 w l hB hone (by omega)
  have hload : (loadCells ⟨b', o', none⟩ (n * k)).run P w = .ok news.toArray w := run_loadCells_E hlen (fun j v hv => by
    rw [addr_add]
    refine hB'.cellv ?_
    rw [← hnews, List.getElem?_take] at hv
    split at hv
    · rwa [List.getElem?_drop] at hv
    · cases hv)
  refine ⟨w', ?_, hg', hs', by simpa [hlen] using hB2⟩
  have hn' : Nat.min sl dl = n := hn
  simp [execOp, resolve, invoke, builtin, hx, hy, Builtin.copy_, run_underlying hu, Builtin.lenOf, hn', hz, Builtin.firstCells, hload, hw', goInt]
theorem rw_copy {x y : Operand} {t t2 el tb tb' b o b' o' dl dc sl sc k n : Nat} {l l' news : List Value} (hu : P.underlying t = some (.slice el)) (hz : ∀ w, (sizeOf el).run P w = .ok k w) (hx : ev e x = .slice (some ⟨b, o, none⟩) dl dc) (hy : ev e y = .slice (some ⟨b', o', none⟩) sl sc)
    (hB : Blk w b tb l) (hB' : Blk w b' tb' l') (hn : min sl dl = n) (hnews : (l'.drop o').take (n * k) = news) (hlen : news.length = n * k) (ho : o + n * k ≤ l.length) (hone : ∀ v ∈ news, v.oneCell' = true)
    (hr : ∀ w', w.grownBy w' (some b) → w'.heap.size = w.heap.size → Blk w' b tb (l.take o ++ news ++ l.drop (o + n * k)) → RW P ops Q rest (updO e d (.int .i64 n)) w') :
    RW P ops Q (⟨d, .call ⟨.builtin .copy, #[x, y], #[t, t2]⟩, ty, ps, af, none⟩ :: rest) e w := by
  obtain ⟨w', h1, h2, h3, h4⟩ := op_copy (P := P) (d := d) (ty := ty) (ps := ps) (af := af) (t2 := t2) hu hz hx hy hB hB' hn hnews hlen ho hone
  exact rw_w h1 (hr w' h2 h3 h4)
theorem to_w {o : Oper} {v : Value} {w' : World} {R : Value → World → Prop} (h : (execOp (ev e) o).run P w = .ok (.value v) w') (hr : R v w') : opTo P e o w R := by
  unfold opTo; rw [h]; exact hr
theorem to_ex {o : Oper} {v : Value} {A : World → Prop} {R : Value → World → Prop} (h : ∃ w', (execOp (ev e) o).run P w = .ok (.value v) w' ∧ A w') (hr : ∀ w', A w' → R v w') : opTo P e o w R := by
  obtain ⟨w', h1, h2⟩ := h; exact to_w h1 (hr w' h2)
theorem to_s {o : Oper} {w' : World} {R : Value → World → Prop} (h : (execOp (ev e) o).run P w = .ok .skip w') (hr : R undef w') : opTo P e o w R := by
  unfold opTo; rw [h]; exact hr
/-- copy from nothing -/
theorem rw_copy0 {x y : Operand} {t t2 el k dl dc sc : Nat} {A : Option Addr} (hu : P.underlying t = some (.slice el)) (hz : ∀ w, (sizeOf el).run P w = .ok k w) (hx : ev e x = .slice A dl dc) (hy : ev e y = .slice none 0 sc)
    (hr : RW P ops Q rest (updO e d (.int .i64 0)) w) : RW P ops Q (⟨d, .call ⟨.builtin .copy, #[x, y], #[t, t2]⟩, ty, ps, af, none⟩ :: rest) e w := by
  refine rw_w (v := .int .i64 0) (w' := w) ?_ hr
  have hn' : Nat.min 0 dl = 0 := Nat.zero_min _
  cases A <;> simp [execOp, resolve, invoke, builtin, hx, hy, Builtin.copy_, run_underlying hu, Builtin.lenOf, hn', hz, Builtin.firstCells, storeCells, goInt]
theorem op_slice_lh {t el : TypeId} {x lo hi : Operand} {b o len cap k : Nat} {kl kh : IntKind} {m n : Int} (hu : P.underlying t = some (.slice el)) (hz : ∀ w, (sizeOf el).run P w = .ok k w) (hx : ev e x = .slice (some ⟨b, o, none⟩) len cap) (hl : ev e lo = .int kl m) (hh : ev e hi = .int kh n)
    (h0 : 0 ≤ m) (h1 : m ≤ n) (h2 : n ≤ cap) (h3 : m < cap) : OpV P e ⟨d, .slice t x (some lo) (some hi) none, ty, ps, af, none⟩ (.slice (some ⟨b, o + m.toNat * k, none⟩) (n.toNat - m.toNat) (cap - m.toNat)) := by
  intro w
  have eh : (n.toNat : Int) = n := Int.toNat_of_nonneg (by omega)
  have hne : cap ≠ m.toNat := by omega
  simp [OpR, execOp, hx, hl, hh, Instr.sliceAt, Instr.slice, run_underlying hu, Instr.sliceBounds, run_sliceBound, eh, h0, h1, h2, (by omega : 0 ≤ n), hz, hne, addr_add]
theorem op_slice_h {t el : TypeId} {x hi : Operand} {len cap k : Nat} {A : Option Addr} {kh : IntKind} {n : Int} (hu : P.underlying t = some (.slice el)) (hz : ∀ w, (sizeOf el).run P w = .ok k w) (hx : ev e x = .slice A len cap) (hh : ev e hi = .int kh n)
    (h0 : 0 ≤ n) (h2 : n ≤ cap) : OpV P e ⟨d, .slice t x none (some hi) none, ty, ps, af, none⟩ (.slice A n.toNat cap) := by
  intro w
  have eh : (n.toNat : Int) = n := Int.toNat_of_nonneg (by omega)
  have hA : (if cap = 0 then A else Option.map (fun x => x.add 0) A) = A := by
    split
    · rfl
    · cases A <;> simp [Addr.add]
  simp [OpR, execOp, hx, hh, Instr.sliceAt, Instr.slice, run_underlying hu, Instr.sliceBounds, run_sliceBound, h0, h2, hz]
  intro hc; cases A <;> simp [Addr.add]
theorem op_slice_l {t el : TypeId} {x lo : Operand} {b o len cap k : Nat} {kl : IntKind} {m : Int} (hu : P.underlying t = some (.slice el)) (hz : ∀ w, (sizeOf el).run P w = .ok k w) (hx : ev e x = .slice (some ⟨b, o, none⟩) len cap) (hl : ev e lo = .int kl m)
    (h0 : 0 ≤ m) (h1 : m ≤ len) (h3 : m < cap) : OpV P e ⟨d, .slice t x (some lo) none none, ty, ps, af, none⟩ (.slice (some ⟨b, o + m.toNat * k, none⟩) (len - m.toNat) (cap - m.toNat)) := by
  intro w
  have hne : cap ≠ m.toNat := by omega
  simp [OpR, execOp, hx, hl, Instr.sliceAt, Instr.slice, run_underlying hu, Instr.sliceBounds, run_sliceBound, h0, h1, hz, hne, addr_add]
theorem range_flat (z : Array Value) (k : Nat) (hsz : z.size = k) (m : Nat) : (List.range (m * k)).map (fun i => z[i % z.size]!) = (List.replicate m z.toList).flatten := by
  induction m with
  | zero => simp
  | succ m ih =>
    rw [Nat.succ_mul, List.range_add, List.map_append, ih, List.replicate_succ', List.flatten_append]
    congr 1
    simp only [List.map_map, List.flatten_cons, List.flatten_nil, List.append_nil]
    apply List.ext_getElem?
    intro j
    by_cases hj : j < k
    · have : (m * k + j) % k = j := by rw [Nat.add_comm, Nat.add_mul_mod_self_right, Nat.mod_eq_of_lt hj]
      simp [hj, hsz, this]
    · simp [hj, hsz]
/-- make([]T, n, c) -/
theorem op_make {t el : TypeId} {x y : Operand} {size bytes n c : Nat} {kl kc : IntKind} {z : Value} {m p : Int} (hu : P.underlying t = some (.slice el)) (hI : (P.info? el).map (fun i => (i.zero, i.size, i.bytes)) = some (some z, size, bytes)) (hz : Nat.beq z.cells.size size = true)
    (hx : ev e x = .int kl m) (hy : ev e y = .int kc p) (hm : m = (n : Nat)) (hp : p = (c : Nat)) (hnc : n ≤ c) (hb : c * (bytes + 1) ≤ 140737488355328) :
    (execOp (ev e) ⟨d, .makeSlice t x y, ty, ps, af, none⟩).run P w = .ok (.value (.slice (some ⟨w.heap.size, 0, none⟩) n c)) (w.alloc (.cells ((List.replicate c z.cells.toList).flatten).toArray el)) := by
  obtain ⟨i, hi, hz0, hz1, hz2⟩ := info_parts hI
  subst hm; subst hp
  have hz' := Nat.eq_of_beq_eq_true hz
  have hb1 : c * bytes ≤ 140737488355328 := Nat.le_trans (Nat.mul_le_mul_left _ (by omega)) hb
  have hb2 : c ≤ 140737488355328 := Nat.le_trans (Nat.le_mul_of_pos_right _ (by omega)) hb
  have hb3 : (i.bytes : Int) * (c : Int) ≤ 281474976710656 := by
    have h : ((i.bytes * c : Nat) : Int) ≤ 281474976710656 := by rw [hz2, Nat.mul_comm]; omega
    rwa [Int.natCast_mul] at h
  have hr := run_make (P := P) w t el i z hu hi hz0 kl kc n c (by omega) (by omega) hb3 (by omega)
  have hcells : madeCells z.cells (c * i.size) = ((List.replicate c z.cells.toList).flatten).toArray := by
    rw [← Array.toList_inj]
    unfold madeCells
    simp only [Array.toList_map, Array.toList_range]
    rw [hz1]
    exact range_flat z.cells size hz' c
  simp only [Int.toNat_natCast] at hr
  rw [hcells] at hr
  simp [execOp, hx, hy, hr]
theorem flat_one (v : Value) (n : Nat) : (List.replicate n [v]).flatten = List.replicate n v := by
  induction n with
  | zero => rfl
  | succ n ih => simp [List.replicate_succ, ih]
theorem op_make1 {t el : TypeId} {x y : Operand} {bytes n c : Nat} {kl kc : IntKind} {z : Value} {m p : Int} (hu : P.underlying t = some (.slice el)) (hI : (P.info? el).map (fun i => (i.zero, i.size, i.bytes)) = some (some z, 1, bytes)) (hz : z.cells = #[z])
    (hx : ev e x = .int kl m) (hy : ev e y = .int kc p) (hm : m = (n : Nat)) (hp : p = (c : Nat)) (hnc : n ≤ c) (hb : c * (bytes + 1) ≤ 140737488355328) :
    (execOp (ev e) ⟨d, .makeSlice t x y, ty, ps, af, none⟩).run P w = .ok (.value (.slice (some ⟨w.heap.size, 0, none⟩) n c)) (w.alloc (.cells (List.replicate c z).toArray el)) := by
  have h := op_make (P := P) (w := w) (d := d) (ty := ty) (ps := ps) (af := af) (e := e) hu hI (by rw [hz]; rfl) hx hy hm hp hnc hb
  rw [hz] at h
  have e2 : (#[z] : Array Value).toList = [z] := rfl
  rw [e2, flat_one] at h
  exact h
/-- a type's assertion that holds, with its ok -/
theorem op_assert {x : Operand} {ts t : TypeId} {v : Value} {dd : TypeDesc} (hu : P.underlying t = some dd) (hd : ifaceD dd = false) (hx : ev e x = .iface t v) : OpV P e ⟨d, .typeAssert x ts t true, ty, ps, af, none⟩ (.tuple #[v, .bool true]) := by
  intro w
  cases dd <;> first | (cases hd; done) | (simp [OpR, execOp, hx, Instr.typeAssert, run_underlying hu])
theorem op_assert1 {x : Operand} {ts t : TypeId} {v : Value} {dd : TypeDesc} (hu : P.underlying t = some dd) (hd : ifaceD dd = false) (hx : ev e x = .iface t v) (hv : fz v = some v) : OpV P e ⟨d, .typeAssert x ts t false, ty, ps, af, none⟩ v := by
  intro w
  cases dd <;> first | (cases hd; done) | (simp [OpR, execOp, hx, Instr.typeAssert, run_underlying hu])
theorem op_assertN {x : Operand} {ts t t' : TypeId} {v z : Value} {dd : TypeDesc} (hu : P.underlying t = some dd) (hd : ifaceD dd = false) (hx : ev e x = .iface t' v) (hne : Nat.beq t' t = false) (hz : ∀ w, (zeroValue t).run P w = .ok z w) : OpV P e ⟨d, .typeAssert x ts t true, ty, ps, af, none⟩ (.tuple #[z, .bool false]) := by
  intro w
  have h : t' ≠ t := by rintro rfl; simp at hne
  cases dd <;> first | (cases hd; done) | (simp [OpR, execOp, hx, Instr.typeAssert, run_underlying hu, h, hz])
end
end Go.Proofs.Ytbcgbcipigcbhaa
