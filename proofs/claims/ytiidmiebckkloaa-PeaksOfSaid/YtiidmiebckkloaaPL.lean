/- peaks.isle.root, peaks.join: contracts. -/
import Derived.Test.YtiidmiebckkloaaPK
import Derived.Test.YtiidmiebckkloaaPH
import Derived.LaidEqlPtr
import Derived.Test.YtiidmiebckkloaaPI
import Derived.Test.YtiidmiebckkloaaPC
import Derived.Laws.StructEq
namespace Go.Proofs.Ytiidmiebckkloaa
open Go.RowKit
set_option linter.unusedVariables false
set_option linter.unusedSimpArgs false
set_option maxRecDepth 100000

section
variable {α : Type} {enc : α → List Value} {k : Nat}
theorem pflat_len (hk : ∀ x, (enc x).length = k) (l : List α) : (l.flatMap enc).length = l.length * k := by
  induction l with
  | nil => simp
  | cons a l ih => rw [List.flatMap_cons, List.length_append, ih, hk, List.length_cons, Nat.succ_mul, Nat.add_comm]
theorem pflat_get (hk : ∀ x, (enc x).length = k) : ∀ (l : List α) (j r : Nat) (x : α), l[j]? = some x → r < k → (l.flatMap enc)[j * k + r]? = (enc x)[r]?
  | [], _, _, _, h, _ => by simp at h
  | a :: l, 0, r, x, h, hr => by
    injection h with h
    subst h
    rw [List.flatMap_cons, Nat.zero_mul, Nat.zero_add, List.getElem?_append_left (by rw [hk]; exact hr)]
  | a :: l, j + 1, r, x, h, hr => by
    rw [List.getElem?_cons_succ] at h
    rw [List.flatMap_cons, List.getElem?_append_right (by rw [hk, Nat.succ_mul]; omega), hk, show (j + 1) * k + r - k = j * k + r by rw [Nat.succ_mul]; omega]
    exact pflat_get hk l j r x h hr
theorem pflat_set (hk : ∀ x, (enc x).length = k) : ∀ (l : List α) (j r : Nat) (x y : α) (v : Value), r < k → l[j]? = some x → (enc x).set r v = enc y → (l.flatMap enc).set (j * k + r) v = (l.set j y).flatMap enc
  | [], _, _, _, _, _, _, h, _ => by simp at h
  | a :: l, 0, r, x, y, v, hr, h, hy => by
    injection h with h
    subst h
    rw [List.flatMap_cons, Nat.zero_mul, Nat.zero_add, List.set_append_left _ _ (by rw [hk]; exact hr), hy]
    rfl
  | a :: l, j + 1, r, x, y, v, hr, h, hy => by
    rw [List.getElem?_cons_succ] at h
    rw [List.flatMap_cons, List.set_append_right _ _ (by rw [hk, Nat.succ_mul]; omega), hk, show (j + 1) * k + r - k = j * k + r by rw [Nat.succ_mul]; omega, pflat_set hk l j r x y v hr h hy]
    rfl
end
theorem St.prow0 {F : Nat → Prop} {W w : World} {el k n c : Nat} {A : Option Addr} {xs ys : List Value} {L : List HA} (S : St F W w (.row el k A n c xs :: L)) (h : xs = ys) : St F W w (.row el k A n c ys :: L) := h ▸ S
def encPk (gw : Nat) (p : Pk) : List Value := [.int .i64 (p.fs % gw : Nat), .int .i64 (p.fs / gw : Nat), .int .i64 p.v, .int .i64 p.ar, .int .i64 p.rz]
/-! ### isles in memory -/
structure Il where
  b : Nat
  u : Option Nat
  v : Int
  o : List Nat
  A : Option Addr
  c : Nat
def upV (u : Option Nat) : Value := .pointer (u.map fun b => ⟨b, 0, none⟩)
def Il.cells (x : Il) : List Value := [upV x.u, .int .i64 x.v, .slice x.A x.o.length x.c]
def Il.blk (x : Il) : HA := .blk x.b 115 x.cells
def Il.row (x : Il) : HA := .row 3 1 x.A x.o.length x.c (natsV x.o)
/-- the peaks' rises, after those of `ps` are known -/
def zUp (V : List Int) (H : List Nat) (h : Int) (ps : List Nat) (z : Nat → Int) : Nat → Int := fun q => if q ∈ ps.map (fun p => H.getD p 0) then V.getD q 0 - h else z q
theorem zUp_nil (V : List Int) (H : List Nat) (h : Int) (z : Nat → Int) : zUp V H h [] z = z := by funext q; unfold zUp; simp
section
variable {gw : Nat} {V : List Int} {H ps : List Nat} {h : Int} {z : Nat → Int} {p q : Nat}
theorem zUp_snoc (hH : H.Nodup) (hp : H[p]? = some q) : (H.map (pkAt gw V (zUp V H h ps z))).set p ⟨q, V.getD q 0, (plat gw V q).length, V.getD q 0 - h⟩ = H.map (pkAt gw V (zUp V H h (ps ++ [p]) z)) := by
  obtain ⟨hpl, hpe⟩ := List.getElem?_eq_some_iff.1 hp
  apply List.ext_getElem?
  intro j
  rw [List.getElem?_set, List.length_map, List.getElem?_map, List.getElem?_map]
  have hgd : H.getD p 0 = q := by rw [List.getD_eq_getElem?_getD, hp]; rfl
  by_cases e : p = j
  · subst e
    rw [if_pos rfl, if_pos hpl, hp, Option.map_some]
    unfold pkAt zUp
    rw [if_pos (by rw [List.map_append, List.mem_append]; right; rw [List.map_cons, hgd]; exact List.mem_cons_self)]
  · rw [if_neg e]
    cases hj : H[j]? with
    | none => rfl
    | some x =>
      obtain ⟨hjl, hje⟩ := List.getElem?_eq_some_iff.1 hj
      have hne : x ≠ q := fun ex => e ((List.getElem?_inj hpl hH).1 (by rw [hp, hj, ex]))
      rw [Option.map_some, Option.map_some]
      unfold pkAt zUp
      have : (x ∈ (ps ++ [p]).map (fun p => H.getD p 0)) ↔ (x ∈ ps.map (fun p => H.getD p 0)) := by
        rw [List.map_append, List.mem_append, List.map_cons, List.map_nil, List.mem_singleton, hgd]
        exact ⟨fun h => h.elim id (fun e => absurd e hne), .inl⟩
      simp only [this]
theorem pk_get {z : Nat → Int} (hp : H[p]? = some q) (r : Nat) (hr : r < 5) : ((H.map (pkAt gw V z)).flatMap (encPk gw))[(p : Int).toNat * 5 + r]? = (encPk gw (pkAt gw V z q))[r]? := by
  rw [Int.toNat_natCast]
  exact pflat_get (k := 5) (fun _ => rfl) _ p r _ (by rw [List.getElem?_map, hp]; rfl) hr
theorem pk_lt {z : Nat → Int} (hp : H[p]? = some q) (r : Nat) (hr : r < 5) : (p : Int).toNat * 5 + r < ((H.map (pkAt gw V z)).flatMap (encPk gw)).length := by
  obtain ⟨hpl, _⟩ := List.getElem?_eq_some_iff.1 hp
  rw [Int.toNat_natCast, pflat_len (k := 5) (fun _ => rfl), List.length_map]
  omega
theorem pk_set (hH : H.Nodup) (hp : H[p]? = some q) : ((H.map (pkAt gw V (zUp V H h ps z))).flatMap (encPk gw)).set ((p : Int).toNat * 5 + 4) (.int .i64 (V.getD q 0 - h)) = (H.map (pkAt gw V (zUp V H h (ps ++ [p]) z))).flatMap (encPk gw) := by
  rw [Int.toNat_natCast, pflat_set (k := 5) (fun _ => rfl) _ p 4 (pkAt gw V (zUp V H h ps z) q) ⟨q, V.getD q 0, (plat gw V q).length, V.getD q 0 - h⟩ _ (by omega) (by rw [List.getElem?_map, hp]; rfl) rfl, zUp_snoc hH hp]
end
/-- a row is appended to another one, in a region that draws -/
def CZ (F : Nat → Prop) (W : World) (L : List HA) (i el k n m : Nat) (xs ys : List Value) (wq : World) : List Value → Prop
  | [] => St F W wq L
  | [v] => ∃ A' c' L', v = .slice A' (n + m) c' ∧ setO L i (.row el k A' (n + m) c' (xs ++ ys)) = some L' ∧ St F W wq L'
  | _ => False
section
variable {F : Nat → Prop} {W : World} {L : List HA} {i el k n m : Nat} {xs ys : List Value} {wq w' : World} {τ : List Value}
theorem CZ.gr (h : CZ F W L i el k n m xs ys wq τ) (g : Gr wq w') : CZ F W L i el k n m xs ys w' τ := by
  match τ, h with
  | [], h => exact St.gr (show St F W wq L from h) g
  | [v], ⟨A', c', L', e, hs, h⟩ => exact ⟨A', c', L', e, hs, h.gr g⟩
theorem CZ.ok (h : CZ F W L i el k n m xs ys wq τ) {j : Nat} (hj : j ≠ i) {x : HA} (hx : getO L j = some x) : x.ok wq := by
  match τ, h with
  | [], h => exact St.ok (show St F W wq L from h) hx
  | [v], ⟨A', c', L', e, hs, h⟩ => exact h.ok (i := j) ((setO_other _ _ _ _ _ hs hj).trans hx)
end
section
variable {P : Program} {e : Nat → Value} {d : Option Tmp} {ty : TypeId} {ps : String} {af : Array Edge} {F : Nat → Prop} {W wq : World} {L : List HA}
theorem CZ.ld {i el k n m : Nat} {xs ys : List Value} {τ : List Value} (h : CZ F W L i el k n m xs ys wq τ) {t : TypeId} {x : Operand} {j b tb o : Nat} {l : List Value} {dd : TypeDesc} {v : Value} (hj : j ≠ i) (hx : getO L j = some (.blk b tb l)) (hu : P.underlying t = some dd) (hd : aggD dd = false)
    (hp : ev e x = .pointer (some ⟨b, o, none⟩)) (hv : l[o]? = some v) : OpR P e ⟨d, .load t x, ty, ps, af, none⟩ wq v := op_loadB hu hd hp (h.ok hj hx) hv
theorem to_appCZ {i j : Nat} {s x : Operand} {t el bytes k n c m c2 : Nat} {A B : Option Addr} {z : Value} {xs ys : List Value} (S : St F W wq L) (hi : getO L i = some (.row el k A n c xs)) (hj : getO L j = some (.row el k B m c2 ys)) (hf : ∀ h, ∃ L', setO L i h = some L')
    (hu : P.underlying t = some (.slice el)) (hI : (P.info? el).map (fun i => (i.zero, i.size, i.bytes)) = some (some z, k, bytes)) (hz : Nat.beq z.cells.size k = true) (hk : Nat.blt 0 k = true)
    (hs : ev e s = .slice A n c) (hx : ev e x = .slice B m c2) (h1 : (ys.all fun v => v.oneCell') = true) (hb : (n + m) * (bytes + 1) ≤ 140737488355328) :
    opTo P e ⟨d, .call ⟨.builtin .append, #[s, x], #[t, t]⟩, ty, ps, af, none⟩ wq (fun u w' => CZ F W L i el k n m xs ys w' [u]) := by
  obtain ⟨inf, hinf, hz0, hz1, hz2⟩ := info_parts hI
  have hk0 : 0 < k := Nat.le_of_ble_eq_true hk
  have hz' := Nat.eq_of_beq_eq_true hz
  have hb1 : (n + m) * bytes ≤ 140737488355328 := Nat.le_trans (Nat.mul_le_mul_left _ (by omega)) hb
  have hb2 : n + m ≤ 140737488355328 := Nat.le_trans (Nat.le_mul_of_pos_right _ (by omega)) hb
  have hRow := S.row hi
  have hSrc := S.row hj
  have hm := hSrc.len
  have hR := hSrc.rd
  rcases hSrc.form with ⟨rfl, rfl, rfl, rfl⟩ | ⟨g2, l2, rfl, _⟩
  · have := run_append_owned_none (P := P) (w := wq) 0 t ty el inf k hu hinf (.slice A n c) n xs hRow
    obtain ⟨L', hL'⟩ := hf (.row el k A (n + 0) c (xs ++ []))
    refine to_w (v := .slice A (n + 0) c) (w' := wq) ?_ ⟨A, c, L', rfl, hL', ?_⟩
    · simp [execOp, resolve, invoke, builtin, hs, hx, this]
    · refine S.as_ hi hL' (fun h => ?_) (fun g h => h)
      rw [List.append_nil]
      exact h
  · obtain ⟨v', w', hrun, ho, hg, _, hob⟩ := run_append_own_at (P := P) wq 0 t ty el inf z k bytes hu hinf hz0 hz1 hz2 hz' hk0 (.slice A n c) n xs hRow ⟨g2, 0, none⟩ m c2 ys hm
      (fun j u hu => by rw [addr_add]; exact hR.cell rfl hu) (fun u hu => List.all_eq_true.1 h1 u hu) (by unfold maxLen; omega) hb1 (by omega)
    obtain ⟨A', c', rfl⟩ := Own.form ho
    have hRow' : Row w' el k A' (n + m) c' (xs ++ ys) := ho
    obtain ⟨L', hL'⟩ := hf (.row el k A' (n + m) c' (xs ++ ys))
    refine to_w (v := .slice A' (n + m) c') (w' := w') ?_ ⟨A', c', L', rfl, hL', ?_⟩
    · simp [execOp, resolve, invoke, builtin, hs, hx, hrun]
    · refine S.set hi hL' (Fr.of_grown (F := fun g => ownA A g) hg (fun g e => ?_)) (fun g e => .inl e) hRow' (fun g e => ?_)
      · cases A with
        | none => cases e
        | some a => exact e
      · have e' : (Value.slice A' (n + m) c').ownBlock = some g := by
          cases A' with
          | none => cases e
          | some a => exact e
        rw [e'] at hob
        rcases hob with h | h
        · left
          cases A with
          | none => cases h
          | some a => exact h.symm
        · injection h with h; right; omega
end
theorem natsV_ones (l : List Nat) : (natsV l).all (fun v => v.oneCell') = true := by
  unfold natsV
  rw [List.all_map, List.all_eq_true]
  intro x _
  rfl
section
variable {F : Nat → Prop} {W w : World} {tl : List HA} {gw : Nat} {V : List Int} {H : List Nat}
set_option maxHeartbeats 4000000 in
theorem pjoin_E {pa pb n co : Nat} {Ao : Option Addr} {z : Nat → Int} (h : Int) (x y : Il) (sw : Bool) (hxy : (sw = false ∧ pa = x.b ∧ pb = y.b ∧ ¬ x.v < y.v) ∨ (sw = true ∧ pa = y.b ∧ pb = x.b ∧ y.v < x.v)) (hH : H.Nodup) (hn : n = H.length) (hy : ∀ p, p ∈ y.o → p < H.length)
    (hxl : x.o.length ≤ 1048576) (hyl : y.o.length ≤ 1048576) (hHl : H.length ≤ 1048576) (hB : ∀ j, -2147483648 ≤ V.getD j 0 ∧ V.getD j 0 ≤ 2147483647) (hh : -2147483648 ≤ h ∧ h ≤ 2147483647)
    (S : St F W w (.row 42 5 Ao n co ((H.map (pkAt gw V z)).flatMap (encPk gw)) :: x.blk :: x.row :: y.blk :: y.row :: tl)) :
    Fn Try.prog 53 [.pointer (some ⟨pa, 0, none⟩), .pointer (some ⟨pb, 0, none⟩), .int .i64 h, .slice Ao n co] w (fun v w' => v = .tuple #[] ∧
      (x.v = y.v → ∃ A' c', St F W w' (.row 42 5 Ao n co ((H.map (pkAt gw V z)).flatMap (encPk gw)) :: (Il.mk x.b x.u x.v (x.o ++ y.o) A' c').blk :: (Il.mk x.b x.u x.v (x.o ++ y.o) A' c').row :: (Il.mk y.b (some x.b) y.v y.o y.A y.c).blk :: y.row :: tl)) ∧
      (y.v < x.v → St F W w' (.row 42 5 Ao n co ((H.map (pkAt gw V (zUp V H h y.o z))).flatMap (encPk gw)) :: x.blk :: x.row :: (Il.mk y.b (some x.b) y.v y.o y.A y.c).blk :: y.row :: tl))) := by
  obtain ⟨xb, xu, xv, xo, xA, xc⟩ := x
  obtain ⟨yb, yu, yv, yo, yA, yc⟩ := y
  dsimp only at *
  refine Fn_enter Try.func53 rfl Try.results53 Try.ntmps53 (by kernel_rfl) (by kernel_rfl) ?_
  have hvv : yv ≤ xv := by rcases hxy with ⟨_, _, _, h⟩ | ⟨_, _, _, h⟩ <;> omega
  repeat refine cw_seq ?_
  refine cw_cutT (M := fun e w => SL e [(0, .pointer (some ⟨pa, 0, none⟩)), (1, .pointer (some ⟨pb, 0, none⟩)), (2, .int .i64 h), (3, .slice Ao n co), (18, .bool sw)] ∧ St F W w (.row 42 5 Ao n co ((H.map (pkAt gw V z)).flatMap (encPk gw)) :: (Il.mk xb xu xv xo xA xc).blk :: (Il.mk xb xu xv xo xA xc).row :: (Il.mk yb yu yv yo yA yc).blk :: (Il.mk yb yu yv yo yA yc).row :: tl)) ?_ ?_
  · rcases hxy with ⟨rfl, rfl, rfl, hv⟩ | ⟨rfl, rfl, rfl, hv⟩
    · skip
      repeat refine cw_seq ?_
      refine cw_draw (C := fun wq => Gr w wq) [0, 1, 2, 3, 4, 5, 6, 7, 8] [] (by kernel_rfl) (by kernel_rfl) (Gr.drew _) ?_
      simp only [pickL, List.drop_succ_cons, List.drop_zero]
      iterate 2 refine rq_v (op_pure rfl) ?_
      refine rq_v (op_fieldAddr Try.underlying115 rfl Try.sizeOf2 rfl rfl) ?_
      refine rq_r (fun wq hq => op_loadB Try.underlying2 rfl rfl ((S.gr hq).blk (i := 1) rfl) rfl) ?_
      iterate 2 refine rq_v (op_pure rfl) ?_
      refine rq_v (op_fieldAddr Try.underlying115 rfl Try.sizeOf2 rfl rfl) ?_
      refine rq_r (fun wq hq => op_loadB Try.underlying2 rfl rfl ((S.gr hq).blk (i := 3) rfl) rfl) ?_
      refine rq_v (op_b (b := false) rfl (decide_eq_false (by omega))) ?_
      refine rq_nil ?_
      intro w1_ g1_
      have S := S.gr g1_
      first | refine rw_end ?_ | (refine rw_nil ?_; show CW _ _ _ _ _ _) | refine rw_nil ?_
      exact ⟨⟨rfl, rfl, rfl, rfl, rfl, trivial⟩, S⟩
    · skip
      repeat refine cw_seq ?_
      refine cw_draw (C := fun wq => Gr w wq) [0, 1, 2, 3, 4, 5, 6, 7, 8] [] (by kernel_rfl) (by kernel_rfl) (Gr.drew _) ?_
      simp only [pickL, List.drop_succ_cons, List.drop_zero]
      iterate 2 refine rq_v (op_pure rfl) ?_
      refine rq_v (op_fieldAddr Try.underlying115 rfl Try.sizeOf2 rfl rfl) ?_
      refine rq_r (fun wq hq => op_loadB Try.underlying2 rfl rfl ((S.gr hq).blk (i := 3) rfl) rfl) ?_
      iterate 2 refine rq_v (op_pure rfl) ?_
      refine rq_v (op_fieldAddr Try.underlying115 rfl Try.sizeOf2 rfl rfl) ?_
      refine rq_r (fun wq hq => op_loadB Try.underlying2 rfl rfl ((S.gr hq).blk (i := 1) rfl) rfl) ?_
      refine rq_v (op_b (b := true) rfl (decide_eq_true (by omega))) ?_
      refine rq_nil ?_
      intro w2_ g2_
      have S := S.gr g2_
      first | refine rw_end ?_ | (refine rw_nil ?_; show CW _ _ _ _ _ _) | refine rw_nil ?_
      exact ⟨⟨rfl, rfl, rfl, rfl, rfl, trivial⟩, S⟩
  · clear S
    rintro e w ⟨hsl, S⟩
    rw [hsl.fold]
    repeat refine cw_seq ?_
    refine cw_cutT (M := fun e w => SL e [(0, .pointer (some ⟨xb, 0, none⟩)), (1, .pointer (some ⟨yb, 0, none⟩)), (2, .int .i64 h), (3, .slice Ao n co)] ∧ St F W w (.row 42 5 Ao n co ((H.map (pkAt gw V z)).flatMap (encPk gw)) :: (Il.mk xb xu xv xo xA xc).blk :: (Il.mk xb xu xv xo xA xc).row :: (Il.mk yb yu yv yo yA yc).blk :: (Il.mk yb yu yv yo yA yc).row :: tl)) ?_ ?_
    · rcases hxy with ⟨rfl, rfl, rfl, hv⟩ | ⟨rfl, rfl, rfl, hv⟩
      · skip
        repeat refine cw_seq ?_
        refine cw_false rfl ?_
        repeat refine cw_seq ?_
        refine cw_skip ?_
        try show CW _ _ _ _ _ _
        exact ⟨⟨rfl, rfl, rfl, rfl, trivial⟩, S⟩
      · skip
        repeat refine cw_seq ?_
        refine cw_true rfl ?_
        repeat refine cw_seq ?_
        refine cw_region ?_
        iterate 4 refine rw_v (op_pure rfl) ?_
        first | refine rw_end ?_ | (refine rw_nil ?_; show CW _ _ _ _ _ _) | refine rw_nil ?_
        exact ⟨⟨rfl, rfl, rfl, rfl, trivial⟩, S⟩
    · clear S
      rintro e w ⟨hsl, S⟩
      rw [hsl.fold]
      by_cases heq : xv = yv
      · subst heq
        repeat refine cw_seq ?_
        refine cw_region ?_
        iterate 3 refine rw_v (op_pure rfl) ?_
        refine rw_v (op_fieldAddr Try.underlying115 rfl Try.sizeOf113 rfl rfl) ?_
        refine rw_storeS (i := 3) S rfl (Try.sizeOf113 _) rfl rfl rfl rfl rfl rfl ?_
        intro w3_ S
        first | refine rw_end ?_ | (refine rw_nil ?_; show CW _ _ _ _ _ _) | refine rw_nil ?_
        repeat refine cw_seq ?_
        refine cw_draw (C := fun wq => Gr w3_ wq) [0, 1, 2, 3, 4, 5, 6, 7, 8] [] (by kernel_rfl) (by kernel_rfl) (Gr.drew _) ?_
        simp only [pickL, List.drop_succ_cons, List.drop_zero]
        iterate 2 refine rq_v (op_pure rfl) ?_
        refine rq_v (op_fieldAddr Try.underlying115 rfl Try.sizeOf2 rfl rfl) ?_
        refine rq_r (fun wq hq => op_loadB Try.underlying2 rfl rfl ((S.gr hq).blk (i := 3) rfl) rfl) ?_
        iterate 2 refine rq_v (op_pure rfl) ?_
        refine rq_v (op_fieldAddr Try.underlying115 rfl Try.sizeOf2 rfl rfl) ?_
        refine rq_r (fun wq hq => op_loadB Try.underlying2 rfl rfl ((S.gr hq).blk (i := 1) rfl) rfl) ?_
        refine rq_v (op_b (b := true) rfl (decide_eq_true rfl)) ?_
        refine rq_nil ?_
        intro w4_ g4_
        have S := S.gr g4_
        first | refine rw_end ?_ | (refine rw_nil ?_; show CW _ _ _ _ _ _) | refine rw_nil ?_
        repeat refine cw_seq ?_
        refine cw_true rfl ?_
        have S : St F W _ (.row 42 5 Ao n co ((H.map (pkAt gw V z)).flatMap (encPk gw)) :: .blk xb 115 [upV xu, .int .i64 xv, .slice xA xo.length xc] :: .row 3 1 xA xo.length xc (natsV xo) :: .blk yb 115 [upV (some xb), .int .i64 xv, .slice yA yo.length yc] :: .row 3 1 yA yo.length yc (natsV yo) :: tl) := S
        repeat refine cw_seq ?_
        refine cw_tri (C := (fun σ wq => CZ F W (.row 42 5 Ao n co ((H.map (pkAt gw V z)).flatMap (encPk gw)) :: .blk xb 115 [upV xu, .int .i64 xv, .slice xA xo.length xc] :: .row 3 1 xA xo.length xc (natsV xo) :: .blk yb 115 [upV (some xb), .int .i64 xv, .slice yA yo.length yc] :: .row 3 1 yA yo.length yc (natsV yo) :: tl) 2 3 1 xo.length yo.length (natsV xo) (natsV yo) wq σ)) [9] [0, 1, 2, 3, 4, 5, 6, 7, 8, 9] [10, 11, 12] (by kernel_rfl) (by kernel_rfl) (S.gr (Gr.drew _)) ?_
        simp only [pickI, pickL, List.drop_succ_cons, List.drop_zero]
        refine rs_v rfl (op_pure rfl) ?_
        refine rs_v rfl (op_pure rfl) ?_
        refine rs_v rfl (op_pure rfl) ?_
        refine rs_v rfl (op_fieldAddr Try.underlying115 rfl Try.sizeOf94 rfl rfl) ?_
        refine rs_r rfl (fun τ wq hq => CZ.ld hq (j := 1) (by omega) rfl Try.underlying94 rfl rfl rfl) ?_
        refine rs_v rfl (op_pure rfl) ?_
        refine rs_v rfl (op_pure rfl) ?_
        refine rs_v rfl (op_fieldAddr Try.underlying115 rfl Try.sizeOf94 rfl rfl) ?_
        refine rs_r rfl (fun τ wq hq => CZ.ld hq (j := 3) (by omega) rfl Try.underlying94 rfl rfl rfl) ?_
        refine rs_special rfl rfl (fun wq hq => to_appCZ (i := 2) (j := 4) hq rfl rfl (fun h => ⟨_, rfl⟩) Try.underlying94 info_t3 rfl rfl rfl rfl (natsV_ones _) (by omega)) ?_
        rintro v7 w7 ⟨A7, c7, L7, rfl, _, _⟩
        refine rs_nil ?_
        rintro w8 ⟨A8, c8, L_st, e_st, h_st, S⟩
        cases e_st
        obtain rfl := Option.some.inj h_st
        refine rw_v (op_pure rfl) ?_
        refine rw_v (op_fieldAddr Try.underlying115 rfl Try.sizeOf94 rfl rfl) ?_
        refine rw_storeS (i := 1) S rfl (Try.sizeOf94 _) rfl rfl rfl rfl rfl rfl ?_
        intro w6_ S
        first | refine rw_end ?_ | (refine rw_nil ?_; show CW _ _ _ _ _ _) | refine rw_nil ?_
        repeat refine cw_seq ?_
        refine cw_ret ?_
        repeat first | refine ret_then ?_ | refine ret_inb ?_
        have e1 : xo.length + yo.length = (xo ++ yo).length := by simp
        have e2 : natsV xo ++ natsV yo = natsV (xo ++ yo) := by simp [natsV]
        rw [e1, e2] at S
        exact res0n ⟨rfl, fun _ => ⟨A7, c7, S⟩, fun h => absurd h (Int.lt_irrefl _)⟩
      · have hlt : yv < xv := by omega
        repeat refine cw_seq ?_
        refine cw_region ?_
        iterate 3 refine rw_v (op_pure rfl) ?_
        refine rw_v (op_fieldAddr Try.underlying115 rfl Try.sizeOf113 rfl rfl) ?_
        refine rw_storeS (i := 3) S rfl (Try.sizeOf113 _) rfl rfl rfl rfl rfl rfl ?_
        intro w7_ S
        first | refine rw_end ?_ | (refine rw_nil ?_; show CW _ _ _ _ _ _) | refine rw_nil ?_
        repeat refine cw_seq ?_
        refine cw_draw (C := fun wq => Gr w7_ wq) [0, 1, 2, 3, 4, 5, 6, 7, 8] [] (by kernel_rfl) (by kernel_rfl) (Gr.drew _) ?_
        simp only [pickL, List.drop_succ_cons, List.drop_zero]
        iterate 2 refine rq_v (op_pure rfl) ?_
        refine rq_v (op_fieldAddr Try.underlying115 rfl Try.sizeOf2 rfl rfl) ?_
        refine rq_r (fun wq hq => op_loadB Try.underlying2 rfl rfl ((S.gr hq).blk (i := 3) rfl) rfl) ?_
        iterate 2 refine rq_v (op_pure rfl) ?_
        refine rq_v (op_fieldAddr Try.underlying115 rfl Try.sizeOf2 rfl rfl) ?_
        refine rq_r (fun wq hq => op_loadB Try.underlying2 rfl rfl ((S.gr hq).blk (i := 1) rfl) rfl) ?_
        refine rq_v (op_b (b := false) rfl (decide_eq_false (fun e => heq e.symm))) ?_
        refine rq_nil ?_
        intro w8_ g8_
        have S := S.gr g8_
        first | refine rw_end ?_ | (refine rw_nil ?_; show CW _ _ _ _ _ _) | refine rw_nil ?_
        repeat refine cw_seq ?_
        refine cw_false rfl ?_
        repeat refine cw_seq ?_
        refine cw_skip ?_
        try show CW _ _ _ _ _ _
        rw [← zUp_nil V H h z] at S
        repeat refine cw_seq ?_
        refine cw_region ?_
        iterate 2 refine rw_v (op_pure rfl) ?_
        refine rw_v (op_fieldAddr Try.underlying115 rfl Try.sizeOf94 rfl rfl) ?_
        refine rw_r (op_loadB Try.underlying94 rfl rfl (S.blk (i := 3) rfl) rfl) ?_
        refine rw_v (op_len Try.underlying94 rfl) ?_
        refine rw_v (op_pure rfl) ?_
        first | refine rw_end ?_ | (refine rw_nil ?_; show CW _ _ _ _ _ _) | refine rw_nil ?_
        repeat refine cw_seq ?_
        refine cw_block ?_
        repeat refine cw_seq ?_
        refine cw_loop (fun m e w => ∃ j : Nat, j + m = yo.length ∧ SL e [(2, .int .i64 h), (3, .slice Ao n co), (49, .slice yA yo.length yc), (50, .int .i64 yo.length), (51, .int .i64 j)] ∧
          St F W w (.row 42 5 Ao n co ((H.map (pkAt gw V (zUp V H h (yo.take j) z))).flatMap (encPk gw)) :: .blk xb 115 [upV xu, .int .i64 xv, .slice xA xo.length xc] :: .row 3 1 xA xo.length xc (natsV xo) :: .blk yb 115 [upV (some xb), .int .i64 yv, .slice yA yo.length yc] :: .row 3 1 yA yo.length yc (natsV yo) :: tl)) yo.length
          ⟨0, by omega, ⟨rfl, rfl, rfl, rfl, rfl, trivial⟩, S⟩ ?_
        clear S
        rintro m e w ⟨j, hj, hsl, S⟩
        rw [hsl.fold]
        repeat refine cw_seq ?_
        refine cw_region ?_
        refine rw_v (op_pure rfl) ?_
        first | refine rw_end ?_ | (refine rw_nil ?_; show CW _ _ _ _ _ _) | refine rw_nil ?_
        repeat refine cw_seq ?_
        refine cw_cond rfl (fun hc => ?_) (fun hc => ?_)
        · try simp only [decide_eq_true_eq, decide_eq_false_iff_not, beq_iff_eq, bne_iff_ne, beq_eq_false_iff_ne, bne_eq_false_iff_eq, Bool.not_eq_true', Bool.not_eq_false', ne_eq, Decidable.not_not, Int.natCast_inj, Int.ofNat_lt, Int.ofNat_le, gt_iff_lt, ge_iff_le, Int.not_lt, Int.not_le] at hc
          have hjl : j < yo.length := by omega
          obtain ⟨p, hp⟩ : ∃ p, yo[j]? = some p := ⟨_, List.getElem?_eq_getElem hjl⟩
          have hpl := hy p (List.mem_of_getElem? hp)
          obtain ⟨q, hq⟩ : ∃ q, H[p]? = some q := ⟨_, List.getElem?_eq_getElem hpl⟩
          have hg : ((H.map (pkAt gw V (zUp V H h (yo.take j) z))).flatMap (encPk gw))[(p : Int).toNat * 5 + 2]? = some (.int .i64 (V.getD q 0)) := pk_get (gw := gw) (V := V) (z := zUp V H h (yo.take j) z) hq 2 (by omega)
          have hlt5 := pk_lt (gw := gw) (V := V) (z := zUp V H h (yo.take j) z) hq 4 (by omega)
          have hset := pk_set (gw := gw) (V := V) (h := h) (ps := yo.take j) (z := z) hH hq
          have htk : yo.take (j + 1) = yo.take j ++ [p] := by rw [List.take_add_one, hp]; rfl
          rw [← htk] at hset
          have hBq := hB q
          have sa_yr : SomeA yA := (S.row (i := 4) rfl).someA (by omega)
          have sa_out : SomeA Ao := (S.row (i := 0) rfl).someA (by omega)
          repeat refine cw_seq ?_
          refine cw_skip ?_
          try show CW _ _ _ _ _ _
          repeat refine cw_seq ?_
          refine cw_block ?_
          repeat refine cw_seq ?_
          refine cw_region ?_
          refine rw_v (op_idx Try.underlying94 Try.sizeOf3 rfl rfl sa_yr (by omega) (by omega)) ?_
          refine rw_r (op_ldR Try.underlying3 rfl rfl (S.rd (i := 4) rfl) (natsV_get hp)) ?_
          refine rw_v (op_pure rfl) ?_
          first | refine rw_end ?_ | (refine rw_nil ?_; show CW _ _ _ _ _ _) | refine rw_nil ?_
          repeat refine cw_seq ?_
          refine cw_region ?_
          iterate 4 refine rw_v (op_pure rfl) ?_
          refine rw_v (op_idx Try.underlying23 Try.sizeOf42 rfl rfl sa_out (by omega) (by omega)) ?_
          refine rw_v (op_fld Try.underlying42 rfl Try.sizeOf2 rfl rfl sa_out) ?_
          refine rw_r (op_ldR Try.underlying2 rfl rfl (S.rd (i := 0) rfl) hg) ?_
          refine rw_v (op_pure rfl) ?_
          refine rw_v (op_rng rfl (by omega)) ?_
          refine rw_v (op_idx Try.underlying23 Try.sizeOf42 rfl rfl sa_out (by omega) (by omega)) ?_
          refine rw_v (op_fld Try.underlying42 rfl Try.sizeOf2 rfl rfl sa_out) ?_
          refine rw_storeR (i := 0) S rfl (Try.sizeOf2 _) rfl rfl rfl rfl hlt5 rfl ?_
          intro w9_ S
          first | refine rw_end ?_ | (refine rw_nil ?_; show CW _ _ _ _ _ _) | refine rw_nil ?_
          repeat refine cw_seq ?_
          refine cw_region ?_
          refine rw_v (op_rng rfl (by omega)) ?_
          refine rw_v (op_pure rfl) ?_
          first | refine rw_end ?_ | (refine rw_nil ?_; show CW _ _ _ _ _ _) | refine rw_nil ?_
          have S := S.prow0 hset
          exact ⟨m - 1, by omega, j + 1, by omega, ⟨rfl, rfl, rfl, rfl, ie (by omega), trivial⟩, S⟩
        · try simp only [decide_eq_true_eq, decide_eq_false_iff_not, beq_iff_eq, bne_iff_ne, beq_eq_false_iff_ne, bne_eq_false_iff_eq, Bool.not_eq_true', Bool.not_eq_false', ne_eq, Decidable.not_not, Int.natCast_inj, Int.ofNat_lt, Int.ofNat_le, gt_iff_lt, ge_iff_le, Int.not_lt, Int.not_le] at hc
          obtain rfl : j = yo.length := by omega
          rw [List.take_length] at S
          repeat refine cw_seq ?_
          refine cw_exit ?_
          repeat first | refine exit_then ?_ | refine exit_inb ?_
          exact res0n ⟨rfl, fun h => absurd h heq, fun _ => S⟩
end
end Go.Proofs.Ytiidmiebckkloaa
/- Isles while cells are laid by falling heights: plain laws, and their memory. -/
namespace Go.Proofs.Ytiidmiebckkloaa
open Go.RowKit
set_option linter.unusedVariables false
set_option linter.unusedSimpArgs false
set_option maxRecDepth 100000

section
variable {gw : Nat} {V : List Int} {o r r' : Nat → Nat} {k : Nat} {D : Nat → Prop}
theorem JP.join2 (h : JP gw V o k D r) (ho : ∀ x, x < k + 1 → o x < V.length) {x0 : Nat} (hx0 : x0 < k + 1) (hs : Side gw (o k) (o x0)) {a b : Nat} (hab : (a = r (o k) ∧ b = r (o x0)) ∨ (a = r (o x0) ∧ b = r (o k)))
    (hr : ∀ j, r' j = if r j = b then a else r j) : JP gw V o k (fun j => D j ∨ j = o x0) r' := by
  have same : ∀ i j, r i = r j → r' i = r' j := fun i j e => by rw [hr i, hr j, e]
  have h2 : r' (o k) = r' (o x0) := by
    rw [hr, hr]
    rcases hab with ⟨rfl, rfl⟩ | ⟨rfl, rfl⟩
    · rw [if_pos (Eq.refl (r (o x0)))]; split <;> rfl
    · rw [if_pos (Eq.refl (r (o k)))]; split <;> rfl
  refine ⟨fun u hu i hi => ?_, fun x y hx hy hs => same _ _ (h.compl x y hx hy hs), fun x hx hd => ?_⟩
  · have hc := h.conn u hu
    have hk := ho k (by omega)
    have hx := ho x0 hx0
    have hcab : Conn gw V u (r (o k)) (r (o x0)) := ((hc _ hk).symm.trans (.of_adj ⟨hk, hx, hu k (by omega), hu x0 hx0, hs⟩)).trans (hc _ hx)
    have key : Conn gw V u b a := by
      rcases hab with ⟨rfl, rfl⟩ | ⟨rfl, rfl⟩
      · exact hcab.symm
      · exact hcab
    rw [hr i]
    split
    · rename_i e
      have := hc i hi
      rw [e] at this
      exact this.trans key
    · exact hc i hi
  · rcases hd with hd | hd
    · exact same _ _ (h.now x hx hd)
    · rw [hd]; exact h2
/-- over a greater height nothing new hangs on -/
theorem JP.above (h : JP gw V o k D r) (hord : Ord V.length o) (hk : k < V.length) (hdn : ∀ x y, x ≤ y → y < V.length → V.getD (o y) 0 ≤ V.getD (o x) 0) {u : Int} (hu : V.getD (o k) 0 < u) {i j : Nat} (c : Conn gw V u i j) : ((∃ x, x < k + 1 ∧ o x = i) → ∃ x, x < k + 1 ∧ o x = j) ∧ r i = r j := by
  have laid : ∀ j, j < V.length → u ≤ V.getD j 0 → ∃ x, x < k ∧ o x = j := fun j hj hv => by
    obtain ⟨x, hx, rfl⟩ := hord.all j hj
    refine ⟨x, ?_, rfl⟩
    rcases Nat.lt_or_ge x k with h | h
    · exact h
    · have := hdn k x h hx; omega
  induction c with
  | refl => exact ⟨id, rfl⟩
  | step a _ ih =>
    obtain ⟨hi, hj, vi, vj, s⟩ := a
    obtain ⟨x, hx, rfl⟩ := laid _ hi vi
    obtain ⟨y, hy, rfl⟩ := laid _ hj vj
    exact ⟨fun _ => ih.1 ⟨y, by omega, rfl⟩, (h.compl x y hx hy s).trans ih.2⟩
end
section
variable {gw : Nat} {V : List Int} {H : List Nat} {laid laid' : Nat → Prop} {up : Nat → Option Nat} {val val' : Nat → Int} {op op' : Nat → List Nat} {z : Nat → Int} {r o : Nat → Nat} {k : Nat} {D : Nat → Prop}
theorem IsI.to (h : IsI gw V H laid up val op z r) (hl : ∀ i, laid i ↔ laid' i) (hv : ∀ i, val i = val' i) (ho : ∀ i, op i = op' i) : IsI gw V H laid' up val' op' z r := by
  have e1 : laid = laid' := funext fun i => propext (hl i)
  have e2 : val = val' := funext hv
  have e3 : op = op' := funext ho
  subst e1; subst e2; subst e3
  exact h
theorem IsI.closed (h : IsI gw V H laid up val op z r) {i j : Nat} (hi : laid i) (hu : up i = some j) : laid j := by
  refine Classical.byContradiction fun hj => ?_
  obtain ⟨m, c⟩ := h.ch i
  obtain ⟨m', c'⟩ := h.ch j
  have e := h.unr hj
  have : r i = r j := c.uniq (.hop hu c')
  have h2 := h.rl i hi
  rw [this, e] at h2
  exact hj h2
theorem zUp_iff (h : IsI gw V H laid up val op z r) {b : Nat} (lb : laid b) (rb : r b = b) {q : Nat} (hq : q ∈ H) : q ∈ (op b).map (fun p => H.getD p 0) ↔ (laid q ∧ r q = b ∧ V.getD q 0 = val b) := by
  rw [List.mem_map]
  constructor
  · rintro ⟨p, hp, rfl⟩
    obtain ⟨q', h1, h2⟩ := (h.opn b lb rb p).1 hp
    have : H.getD p 0 = q' := by rw [List.getD_eq_getElem?_getD, h1]; rfl
    rw [this]; exact h2
  · intro h2
    obtain ⟨p, hp, he⟩ := List.mem_iff_getElem.1 hq
    have h1 : H[p]? = some q := by rw [List.getElem?_eq_getElem hp, he]
    exact ⟨p, (h.opn b lb rb p).2 ⟨q, h1, h2⟩, by rw [List.getD_eq_getElem?_getD, h1]; rfl⟩
theorem zUp_z (h : IsI gw V H laid up val op z r) {b : Nat} (lb : laid b) (rb : r b = b) (t : Int) : ∀ q, q ∈ H → (laid q ∧ r q = b ∧ V.getD q 0 = val b → zUp V H t (op b) z q = V.getD q 0 - t) ∧ (¬ (laid q ∧ r q = b ∧ V.getD q 0 = val b) → zUp V H t (op b) z q = z q) := fun q hq => by
  unfold zUp
  exact ⟨fun h2 => if_pos ((zUp_iff h lb rb hq).2 h2), fun h2 => if_neg (fun h3 => h2 ((zUp_iff h lb rb hq).1 h3))⟩
/-- the isles of the cell that is laid and of a neighbour are joined: the rises -/
theorem IsI.joinP (h : IsI gw V H laid up val op z r) (hl : ∀ i, laid i ↔ ∃ x, x < k + 1 ∧ o x = i) (hJ : JP gw V o k D r) (hord : Ord V.length o) (hk : k < V.length) (hdn : ∀ x y, x ≤ y → y < V.length → V.getD (o y) 0 ≤ V.getD (o x) 0)
    {x0 : Nat} (hx0 : x0 < k + 1) (hs : Side gw (o k) (o x0)) {a b : Nat} (hab : (a = r (o k) ∧ b = r (o x0)) ∨ (a = r (o x0) ∧ b = r (o k))) (hne : a ≠ b) (hv : val b < val a) :
    IsI gw V H laid (updO_ up b a) val op (zUp V H (V.getD (o k) 0) (op b) z) (fun i => if r i = b then a else r i) := by
  have lk : laid (o k) := (hl _).2 ⟨k, by omega, rfl⟩
  have lx : laid (o x0) := (hl _).2 ⟨x0, hx0, rfl⟩
  have ho : ∀ x, x < k + 1 → o x < V.length := fun x hx => h.lt _ ((hl _).2 ⟨x, hx, rfl⟩)
  have la : laid a := by
    rcases hab with ⟨rfl, rfl⟩ | ⟨rfl, rfl⟩
    · exact h.rl _ lk
    · exact h.rl _ lx
  have lb : laid b := by
    rcases hab with ⟨rfl, rfl⟩ | ⟨rfl, rfl⟩
    · exact h.rl _ lx
    · exact h.rl _ lk
  have ra : r a = a := by rcases hab with ⟨rfl, rfl⟩ | ⟨rfl, rfl⟩ <;> exact h.idem _
  have rb : r b = b := by rcases hab with ⟨rfl, rfl⟩ | ⟨rfl, rfl⟩ <;> exact h.idem _
  have hc := hJ.conn (V.getD (o k) 0) (fun x hx => hdn x k (by omega) hk)
  have hcab : Conn gw V (V.getD (o k) 0) b a := by
    have c : Conn gw V (V.getD (o k) 0) (r (o k)) (r (o x0)) := ((hc _ (ho k (by omega))).symm.trans (.of_adj ⟨ho k (by omega), ho x0 hx0, Int.le_refl _, hdn x0 k (by omega) hk, hs⟩)).trans (hc _ (ho x0 hx0))
    rcases hab with ⟨rfl, rfl⟩ | ⟨rfl, rfl⟩
    · exact c.symm
    · exact c
  refine h.join la lb ra rb hne hv (t := V.getD (o k) 0) (fun q hq hlq hrq hvq => ?_) (fun q j u hq hlq hrq hu hj c => ?_) (zUp_z h lb rb _)
  · obtain ⟨j, lj, rj, vj⟩ := h.vat a la
    rw [ra] at rj vj
    have c1 := hc q (h.lt q hlq)
    have c2 := hc j (h.lt j lj)
    rw [hrq] at c1
    rw [rj] at c2
    exact ⟨j, h.lt j lj, (c1.trans hcab).trans c2.symm, by omega⟩
  · obtain ⟨h1, h2⟩ := hJ.above hord hk hdn hu c
    exact ⟨(hl j).2 (h1 ((hl q).1 hlq)), by rw [← h2, hrq]⟩
end
/-! ### isles in memory -/
def laidL (o : Nat → Nat) : Nat → List Nat
  | 0 => []
  | k + 1 => o k :: laidL o k
theorem mem_laidL {o : Nat → Nat} {i : Nat} : ∀ {k : Nat}, i ∈ laidL o k ↔ ∃ x, x < k ∧ o x = i
  | 0 => by simp [laidL]
  | k + 1 => by
    unfold laidL
    rw [List.mem_cons, mem_laidL]
    constructor
    · rintro (rfl | ⟨x, hx, e⟩)
      · exact ⟨k, by omega, rfl⟩
      · exact ⟨x, by omega, e⟩
    · rintro ⟨x, hx, e⟩
      by_cases h : x = k
      · subst h; exact .inl e.symm
      · exact .inr ⟨x, by omega, e⟩
def islP (il : Nat → Il) (D : List Nat) : List HA := D.flatMap fun i => [(il i).blk, (il i).row]
theorem islP_cons (il : Nat → Il) (i : Nat) (D : List Nat) : islP il (i :: D) = (il i).blk :: (il i).row :: islP il D := rfl
theorem islP_perm {il : Nat → Il} {D D' : List Nat} (h : D.Perm D') : (islP il D).Perm (islP il D') := h.flatMap_right _
theorem islP_congr {il il' : Nat → Il} {D : List Nat} (h : ∀ i, i ∈ D → il i = il' i) : islP il D = islP il' D := by
  induction D with
  | nil => rfl
  | cons a D ih => rw [islP_cons, islP_cons, h a List.mem_cons_self, ih fun i hi => h i (List.mem_cons_of_mem _ hi)]
theorem mem_islP {il : Nat → Il} {D : List Nat} {i : Nat} (h : i ∈ D) : (il i).blk ∈ islP il D := List.mem_flatMap.2 ⟨i, h, List.mem_cons_self⟩
theorem St.mem {F : Nat → Prop} {W w : World} {L : List HA} (S : St F W w L) {h : HA} (hh : h ∈ L) : h.ok w := (S.sep.mem hh).1
theorem perm_isl {α : Type} {I B R : List α} (A M tl : List α) (o : α) (h : I.Perm (B ++ R)) : (A ++ (o :: (M ++ (I ++ tl)))).Perm (o :: (B ++ (A ++ (M ++ (R ++ tl))))) := by
  refine List.perm_middle.trans (.cons o ?_)
  refine (((h.append_right tl).append_left M).append_left A).trans ?_
  rw [List.append_assoc B R tl]
  have h2 := List.perm_append_comm_assoc (A ++ M) B (R ++ tl)
  rw [List.append_assoc A M, List.append_assoc A M] at h2
  exact h2
theorem erase2 {D : List Nat} {x y : Nat} (hx : x ∈ D) (hy : y ∈ D) (hxy : x ≠ y) : D.Perm (x :: y :: (D.erase x).erase y) :=
  (List.perm_cons_erase hx).trans (.cons x (List.perm_cons_erase ((List.mem_erase_of_ne (fun e => hxy e.symm)).2 hy)))
theorem erase2_mem {D : List Nat} (hD : D.Nodup) {x y i : Nat} (h : i ∈ (D.erase x).erase y) : i ≠ x ∧ i ≠ y := by
  have h1 := (hD.erase x)
  rw [h1.mem_erase_iff] at h
  rw [hD.mem_erase_iff] at h
  exact ⟨h.2.1, h.1⟩
section
variable {W : World} {il : Nat → Il} {up : Nat → Option Nat} {D : List Nat}
theorem proot_E {m i r : Nat} (hch : Chn up m i r) (hi : i ∈ D) (hcl : ∀ j j', j ∈ D → up j = some j' → j' ∈ D) (hu : ∀ j, j ∈ D → (il j).u = (up j).map fun q => (il q).b) (hb : ∀ j, j ∈ D → Blk W (il j).b 115 (il j).cells) :
    Fn Try.prog 52 [.pointer (some ⟨(il i).b, 0, none⟩)] W (RetG (.pointer (some ⟨(il r).b, 0, none⟩)) W) := by
  have S := St.start W
  refine Fn_enter Try.func52 rfl Try.results52 Try.ntmps52 (by kernel_rfl) (by kernel_rfl) ?_
  repeat refine cw_seq ?_
  refine cw_region ?_
  refine rw_v (op_pure rfl) ?_
  first | refine rw_end ?_ | (refine rw_nil ?_; show CW _ _ _ _ _ _) | refine rw_nil ?_
  repeat refine cw_seq ?_
  refine cw_block ?_
  repeat refine cw_seq ?_
  refine cw_loop (fun m e w => ∃ j : Nat, Chn up m j r ∧ j ∈ D ∧ SL e [(0, .pointer (some ⟨(il j).b, 0, none⟩))] ∧ St No W w []) m
    ⟨i, hch, hi, ⟨rfl, trivial⟩, S⟩ ?_
  clear S hch hi i
  rintro m e w ⟨j, hch, hj, hsl, S⟩
  rw [hsl.fold]
  have hbj := hb j hj
  have huj := hu j hj
  unfold Il.cells at hbj
  cases hch with
  | root h0 =>
    rw [huj, h0] at hbj
    repeat refine cw_seq ?_
    refine cw_region ?_
    iterate 2 refine rw_v (op_pure rfl) ?_
    refine rw_v (op_fieldAddr Try.underlying115 rfl Try.sizeOf113 rfl rfl) ?_
    refine rw_r (op_loadB Try.underlying113 rfl rfl ((hbj.gr S.out)) rfl) ?_
    refine rw_v (op_nilpn Try.underlying113 rfl rfl) ?_
    first | refine rw_end ?_ | (refine rw_nil ?_; show CW _ _ _ _ _ _) | refine rw_nil ?_
    repeat refine cw_seq ?_
    refine cw_false rfl ?_
    repeat refine cw_seq ?_
    refine cw_exit ?_
    repeat first | refine exit_then ?_ | refine exit_inb ?_
    show CW _ _ _ _ _ _
    repeat refine cw_seq ?_
    refine cw_region ?_
    iterate 2 refine rw_v (op_pure rfl) ?_
    first | refine rw_end ?_ | (refine rw_nil ?_; show CW _ _ _ _ _ _) | refine rw_nil ?_
    repeat refine cw_seq ?_
    refine cw_ret ?_
    repeat first | refine ret_then ?_ | refine ret_inb ?_
    exact res1 rfl ⟨rfl, S.out⟩
  | @hop m' j j' r h0 hc =>
    rw [huj, h0] at hbj
    repeat refine cw_seq ?_
    refine cw_region ?_
    iterate 2 refine rw_v (op_pure rfl) ?_
    refine rw_v (op_fieldAddr Try.underlying115 rfl Try.sizeOf113 rfl rfl) ?_
    refine rw_r (op_loadB Try.underlying113 rfl rfl ((hbj.gr S.out)) rfl) ?_
    refine rw_v (op_nilpn Try.underlying113 rfl rfl) ?_
    first | refine rw_end ?_ | (refine rw_nil ?_; show CW _ _ _ _ _ _) | refine rw_nil ?_
    repeat refine cw_seq ?_
    refine cw_true rfl ?_
    repeat refine cw_seq ?_
    refine cw_skip ?_
    try show CW _ _ _ _ _ _
    repeat refine cw_seq ?_
    refine cw_block ?_
    repeat refine cw_seq ?_
    refine cw_region ?_
    iterate 2 refine rw_v (op_pure rfl) ?_
    refine rw_v (op_fieldAddr Try.underlying115 rfl Try.sizeOf113 rfl rfl) ?_
    refine rw_r (op_loadB Try.underlying113 rfl rfl ((hbj.gr S.out)) rfl) ?_
    refine rw_v (op_pure rfl) ?_
    first | refine rw_end ?_ | (refine rw_nil ?_; show CW _ _ _ _ _ _) | refine rw_nil ?_
    exact ⟨m', by omega, j', hc, hcl j j' hj h0, ⟨rfl, trivial⟩, S⟩
end
end Go.Proofs.Ytiidmiebckkloaa
/- slices.Min, the comparison of two cells' heights, pointers: contracts. -/
namespace Go.Proofs.Ytiidmiebckkloaa
open Go.RowKit
set_option linter.unusedVariables false
set_option linter.unusedSimpArgs false
set_option maxRecDepth 100000

section
variable {P : Program} {e : Nat → Value} {d : Option Tmp} {ty : TypeId} {ps : String} {af : Array Edge}
theorem op_neSame {w : World} {t t' te : TypeId} {x y : Operand} {a : Addr} {j : TypeInfo} (hp : P.underlying t = some (.pointer te)) (hte : P.info? te = some j) (hx : ev e x = .pointer (some a)) (hy : ev e y = .pointer (some a)) : OpR P e ⟨d, .binOp .neq t x y t', ty, ps, af, none⟩ w (.bool false) := by
  have h : ∀ d : Nat, (Op.equalIn (d + 1) t (.pointer (some a)) (.pointer (some a))).run P w = .ok true w := fun d => by
    simp [Op.equalIn, run_underlying hp, sizeOf, typeInfo, hte, run_sameAddr_same]
  simp [OpR, execOp, hx, hy, eqGuard, binOp, Op.equal, Op.maxDepth, h 9999]
theorem op_neOther {w : World} {t t' te : TypeId} {x y : Operand} {a b ta tb : Nat} {la lb : List Value} {j : TypeInfo} (hp : P.underlying t = some (.pointer te)) (hte : P.info? te = some j) (hsz : j.size ≠ 0) (hx : ev e x = .pointer (some ⟨a, 0, none⟩)) (hy : ev e y = .pointer (some ⟨b, 0, none⟩))
    (hne : a ≠ b) (ha : Blk w a ta la) (hb : Blk w b tb lb) : OpR P e ⟨d, .binOp .neq t x y t', ty, ps, af, none⟩ w (.bool true) := by
  have hne' : (⟨a, 0, none⟩ : Addr) ≠ ⟨b, 0, none⟩ := fun e => hne (by injection e)
  have h : ∀ d : Nat, (Op.equalIn (d + 1) t (.pointer (some ⟨a, 0, none⟩)) (.pointer (some ⟨b, 0, none⟩))).run P w = .ok false w := fun d => by
    simp [Op.equalIn, run_underlying hp, sizeOf, typeInfo, hte, hsz, run_sameAddr_other w hne' ha hb]
  simp [OpR, execOp, hx, hy, eqGuard, binOp, Op.equal, Op.maxDepth, h 9999]
end
/-- the least so far -/
def minN (V : List Int) : Nat → Int
  | 0 => V.getD 0 0
  | k + 1 => min (minN V k) (V.getD (k + 1) 0)
theorem minN_spec {V : List Int} : ∀ k, k < V.length → (∃ i, i ≤ k ∧ V.getD i 0 = minN V k) ∧ ∀ i, i ≤ k → minN V k ≤ V.getD i 0
  | 0, _ => ⟨⟨0, Nat.le_refl _, rfl⟩, fun i hi => by rw [Nat.le_zero.1 hi]; exact Int.le_refl _⟩
  | k + 1, hk => by
    obtain ⟨⟨i, hi, he⟩, h2⟩ := minN_spec (V := V) k (by omega)
    refine ⟨?_, fun j hj => ?_⟩
    · show ∃ i, i ≤ k + 1 ∧ V.getD i 0 = min (minN V k) (V.getD (k + 1) 0)
      rcases Int.le_total (minN V k) (V.getD (k + 1) 0) with h | h
      · exact ⟨i, by omega, by rw [he]; omega⟩
      · exact ⟨k + 1, by omega, by omega⟩
    · show min (minN V k) (V.getD (k + 1) 0) ≤ _
      by_cases e : j = k + 1
      · subst e; omega
      · have := h2 j (by omega); omega
section
variable {W : World} {A : Option Addr} {gw c C : Nat} {V : List Int}
theorem smin_E (hV : 1 ≤ V.length ∧ V.length ≤ 1048576) (hA : Rd W A (ints V)) : Fn Try.prog 54 [.slice A V.length c] W (RetG (.int .i64 (minN V (V.length - 1))) W) := by
  have sa_A : SomeA A := hA.someA (by rw [ints_len]; omega)
  have hget : ∀ i, i < V.length → (ints V)[(i : Int).toNat * 1]? = some (.int .i64 (V.getD i 0)) := fun i hi => by rw [Nat.mul_one, Int.toNat_natCast]; exact ints_get (getD_at hi)
  have S := St.start W
  refine Fn_enter Try.func54 rfl Try.results54 Try.ntmps54 (by kernel_rfl) (by kernel_rfl) ?_
  repeat refine cw_seq ?_
  refine cw_region ?_
  refine rw_v (op_pure rfl) ?_
  first | refine rw_end ?_ | (refine rw_nil ?_; show CW _ _ _ _ _ _) | refine rw_nil ?_
  repeat refine cw_seq ?_
  refine cw_region ?_
  refine rw_v (op_pure rfl) ?_
  refine rw_v (op_len Try.underlying30 rfl) ?_
  refine rw_v (op_b (b := false) rfl (decide_eq_false (by omega))) ?_
  first | refine rw_end ?_ | (refine rw_nil ?_; show CW _ _ _ _ _ _) | refine rw_nil ?_
  repeat refine cw_seq ?_
  refine cw_false rfl ?_
  repeat refine cw_seq ?_
  refine cw_skip ?_
  try show CW _ _ _ _ _ _
  repeat refine cw_seq ?_
  refine cw_region ?_
  refine rw_v (op_pure rfl) ?_
  refine rw_v (op_idx Try.underlying30 Try.sizeOf2 rfl rfl sa_A (by omega) (by omega)) ?_
  refine rw_r (op_ldR Try.underlying2 rfl rfl (hA.gr S.out) (hget 0 (by omega))) ?_
  refine rw_v (op_pure rfl) ?_
  first | refine rw_end ?_ | (refine rw_nil ?_; show CW _ _ _ _ _ _) | refine rw_nil ?_
  repeat refine cw_seq ?_
  refine cw_region ?_
  refine rw_v (op_pure rfl) ?_
  first | refine rw_end ?_ | (refine rw_nil ?_; show CW _ _ _ _ _ _) | refine rw_nil ?_
  repeat refine cw_seq ?_
  refine cw_block ?_
  repeat refine cw_seq ?_
  refine cw_loop (fun m e w => ∃ k : Nat, k + 1 + m = V.length ∧ SL e [(0, .slice A V.length c), (3, .int .i64 (minN V k)), (4, .int .i64 (k + 1 : Nat))] ∧ St No W w []) (V.length - 1)
    ⟨0, by omega, ⟨rfl, rfl, rfl, trivial⟩, S⟩ ?_
  clear S
  rintro m e w ⟨k, hk, hsl, S⟩
  rw [hsl.fold]
  repeat refine cw_seq ?_
  refine cw_region ?_
  iterate 2 refine rw_v (op_pure rfl) ?_
  refine rw_v (op_len Try.underlying30 rfl) ?_
  refine rw_v (op_pure rfl) ?_
  first | refine rw_end ?_ | (refine rw_nil ?_; show CW _ _ _ _ _ _) | refine rw_nil ?_
  repeat refine cw_seq ?_
  refine cw_cond rfl (fun hc => ?_) (fun hc => ?_)
  · try simp only [decide_eq_true_eq, decide_eq_false_iff_not, beq_iff_eq, bne_iff_ne, beq_eq_false_iff_ne, bne_eq_false_iff_eq, Bool.not_eq_true', Bool.not_eq_false', ne_eq, Decidable.not_not, Int.natCast_inj, Int.ofNat_lt, Int.ofNat_le, gt_iff_lt, ge_iff_le, Int.not_lt, Int.not_le] at hc
    have hkl : k + 1 < V.length := by omega
    repeat refine cw_seq ?_
    refine cw_skip ?_
    try show CW _ _ _ _ _ _
    repeat refine cw_seq ?_
    refine cw_block ?_
    repeat refine cw_seq ?_
    refine cw_region ?_
    iterate 3 refine rw_v (op_pure rfl) ?_
    refine rw_v (op_idx Try.underlying30 Try.sizeOf2 rfl rfl sa_A (by omega) (by omega)) ?_
    refine rw_r (op_ldR Try.underlying2 rfl rfl (hA.gr S.out) (hget (k + 1) hkl)) ?_
    iterate 2 refine rw_v (op_pure rfl) ?_
    first | refine rw_end ?_ | (refine rw_nil ?_; show CW _ _ _ _ _ _) | refine rw_nil ?_
    repeat refine cw_seq ?_
    refine cw_region ?_
    refine rw_v (op_pure rfl) ?_
    refine rw_v (op_rng rfl (by omega)) ?_
    refine rw_v (op_pure rfl) ?_
    first | refine rw_end ?_ | (refine rw_nil ?_; show CW _ _ _ _ _ _) | refine rw_nil ?_
    exact ⟨m - 1, by omega, k + 1, by omega, ⟨rfl, rfl, ie (by push_cast; rfl), trivial⟩, S⟩
  · try simp only [decide_eq_true_eq, decide_eq_false_iff_not, beq_iff_eq, bne_iff_ne, beq_eq_false_iff_ne, bne_eq_false_iff_eq, Bool.not_eq_true', Bool.not_eq_false', ne_eq, Decidable.not_not, Int.natCast_inj, Int.ofNat_lt, Int.ofNat_le, gt_iff_lt, ge_iff_le, Int.not_lt, Int.not_le] at hc
    have e1 : k = V.length - 1 := by omega
    rw [e1]
    repeat refine cw_seq ?_
    refine cw_exit ?_
    repeat first | refine exit_then ?_ | refine exit_inb ?_
    show CW _ _ _ _ _ _
    repeat refine cw_seq ?_
    refine cw_region ?_
    iterate 2 refine rw_v (op_pure rfl) ?_
    first | refine rw_end ?_ | (refine rw_nil ?_; show CW _ _ _ _ _ _) | refine rw_nil ?_
    repeat refine cw_seq ?_
    refine cw_ret ?_
    repeat first | refine ret_then ?_ | refine ret_inb ?_
    exact res1 rfl ⟨rfl, S.out⟩
theorem prisesC_E (a b : Nat) (ha : a < V.length) (hb : b < V.length) (hC : Blk W C 66 [.int .i64 gw, .slice A V.length c]) (hA : Rd W A (ints V)) :
    Fn Try.prog 51 ([] ++ [.int .i64 a, .int .i64 b] ++ [.pointer (some ⟨C, 0, none⟩)]) W (RetG (.int .i64 (cmpI (V.getD b 0) (V.getD a 0))) W) := by
  have sa_A : SomeA A := hA.someA (by rw [ints_len]; omega)
  have hget : ∀ i, i < V.length → (ints V)[(i : Int).toNat * 1]? = some (.int .i64 (V.getD i 0)) := fun i hi => by rw [Nat.mul_one, Int.toNat_natCast]; exact ints_get (getD_at hi)
  have S := St.start W
  refine Fn_enter Try.func51 rfl Try.results51 Try.ntmps51 (by kernel_rfl) (by kernel_rfl) ?_
  repeat refine cw_seq ?_
  refine cw_region ?_
  refine rw_v (op_pure rfl) ?_
  first | refine rw_end ?_ | (refine rw_nil ?_; show CW _ _ _ _ _ _) | refine rw_nil ?_
  repeat refine cw_seq ?_
  refine cw_draw (C := fun wq => Gr W wq) [0, 1, 2, 3, 4, 5, 6, 7, 8, 9, 10, 11] [] (by kernel_rfl) (by kernel_rfl) (Gr.drew _) ?_
  simp only [pickL, List.drop_succ_cons, List.drop_zero]
  refine rq_v (op_fieldAddr Try.underlying66 rfl Try.sizeOf30 rfl rfl) ?_
  refine rq_r (fun wq hq => op_loadB Try.underlying30 rfl rfl (hC.gr (S.gr hq).out) rfl) ?_
  refine rq_v (op_pure rfl) ?_
  refine rq_v (op_idx Try.underlying30 Try.sizeOf2 rfl rfl sa_A (by omega) (by omega)) ?_
  refine rq_r (fun wq hq => op_ldR Try.underlying2 rfl rfl (hA.gr (S.gr hq).out) (hget b hb)) ?_
  refine rq_v (op_fieldAddr Try.underlying66 rfl Try.sizeOf30 rfl rfl) ?_
  refine rq_r (fun wq hq => op_loadB Try.underlying30 rfl rfl (hC.gr (S.gr hq).out) rfl) ?_
  refine rq_v (op_pure rfl) ?_
  refine rq_v (op_idx Try.underlying30 Try.sizeOf2 rfl rfl sa_A (by omega) (by omega)) ?_
  refine rq_r (fun wq hq => op_ldR Try.underlying2 rfl rfl (hA.gr (S.gr hq).out) (hget a ha)) ?_
  refine rq_call rfl (fun wq hq => (compare_E _ _).mono (fun _ _ ⟨hv, hg⟩ => ⟨hv, hq.trans hg⟩)) ?_
  refine rq_v (op_pure rfl) ?_
  refine rq_nil ?_
  intro w1_ g1_
  have S := S.gr g1_
  first | refine rw_end ?_ | (refine rw_nil ?_; show CW _ _ _ _ _ _) | refine rw_nil ?_
  repeat refine cw_seq ?_
  refine cw_ret ?_
  repeat first | refine ret_then ?_ | refine ret_inb ?_
  exact res1 rfl ⟨rfl, S.out⟩
end
end Go.Proofs.Ytiidmiebckkloaa
/- Peaks by regions: plain laws. -/
namespace Go.Proofs.Ytiidmiebckkloaa
set_option linter.unusedVariables false
set_option linter.unusedSimpArgs false

section
variable {gw gh : Nat} {V : List Int} {q : Nat}
theorem lvl_conn {x : Int} {i j : Nat} (c : Conn gw (lvl V x) 1 i j) : Conn gw V x i j := by
  induction c with
  | refl => exact .refl _
  | step a _ ih =>
    obtain ⟨hi, hj, vi, vj, s⟩ := a
    rw [lvl_len] at hi hj
    exact .step ⟨hi, hj, by rw [(lvl_one hi).1 vi]; exact Int.le_refl _, by rw [(lvl_one hj).1 vj]; exact Int.le_refl _, s⟩ ih
theorem top_conn (ht : TopP gw V q) : ∀ {a b : Nat}, Conn gw V (V.getD q 0) a b → a < V.length → pR gw V a = q → b < V.length ∧ pR gw V b = q := by
  intro a b c
  induction c with
  | refl => exact fun h1 h2 => ⟨h1, h2⟩
  | @step i j _ a _ ih =>
    intro hi hp
    obtain ⟨_, hj, vi, vj, s⟩ := a
    have h1 := ht i j hi hj hp s
    have h2 := pR_val (gw := gw) hi
    rw [hp] at h2
    exact ih hj (by rw [← pR_side hi hj (by omega) s, hp])
/-- a top's plateau is its region over its value -/
theorem plat_conn (hq : q < V.length) (hr : pR gw V q = q) (ht : TopP gw V q) {i : Nat} (hi : i < V.length) : Conn gw V (V.getD q 0) q i ↔ pR gw V i = q := by
  refine ⟨fun c => (top_conn ht c hq hr).2, fun e => ?_⟩
  have c := pR_conn (gw := gw) hi
  have hv := pR_val (gw := gw) hi
  rw [e] at c hv
  rw [← hv] at c
  exact (lvl_conn c).symm
theorem HiC.le {t : Int} (h : HiC gw V t q) : t ≤ V.getD q 0 := by
  obtain ⟨j, hj, c, hv⟩ := h
  cases c with
  | refl => omega
  | step a _ => exact a.2.2.1
theorem HiC.top {t : Int} (hq : q < V.length) (hr : pR gw V q = q) (ht : TopP gw V q) (h : HiC gw V t q) : t < V.getD q 0 := by
  have h1 := h.le
  rcases Int.lt_or_le t (V.getD q 0) with h2 | h2
  · exact h2
  · exfalso
    have e : t = V.getD q 0 := by omega
    subst e
    obtain ⟨j, hj, c, hv⟩ := h
    have h3 := (top_conn ht c hq hr)
    have h4 := pR_val (gw := gw) h3.1
    rw [h3.2] at h4
    omega
theorem min_exists (hV : 1 ≤ V.length) : IsMin V (minN V (V.length - 1)) := by
  obtain ⟨⟨i, hi, he⟩, h2⟩ := minN_spec (V := V) (V.length - 1) (by omega)
  exact ⟨⟨i, by omega, he⟩, fun i hi => h2 i (by omega)⟩
theorem rise_exists (hgw : 1 ≤ gw) (hV : V.length = gw * gh) (hq : q < V.length) : IsRise gw V q (riseN gw V q) := by
  have hm := min_exists (V := V) (by omega)
  obtain ⟨d, hd⟩ : ∃ d, IsRise gw V q d := by
    by_cases hex : ∃ j, j < V.length ∧ V.getD q 0 < V.getD j 0
    · obtain ⟨j, hj, hv⟩ := hex
      have c := fun i hi => grid_conn29 (gh := gh) (V := V) (u := minN V (V.length - 1)) hgw hm.2 i hi
      have h0 : HiC gw V (minN V (V.length - 1)) q := ⟨j, hj, (c q hq).trans (c j hj).symm, hv⟩
      have key : ∀ k : Nat, HiC gw V (V.getD q 0 - k) q → ∃ k' : Nat, HiC gw V (V.getD q 0 - k') q ∧ ∀ k'' : Nat, k'' < k' → ¬ HiC gw V (V.getD q 0 - k'') q := by
        intro k
        induction k using Nat.strongRecOn with
        | ind k ih =>
          intro hk
          by_cases h : ∃ k'', k'' < k ∧ HiC gw V (V.getD q 0 - (k'' : Nat)) q
          · obtain ⟨k'', h1, h2⟩ := h
            exact ih k'' h1 h2
          · exact ⟨k, hk, fun k'' h1 h2 => h ⟨k'', h1, h2⟩⟩
      have hle := h0.le
      obtain ⟨k, hk1, hk2⟩ := key (V.getD q 0 - minN V (V.length - 1)).toNat (by rw [show V.getD q 0 - ((V.getD q 0 - minN V (V.length - 1)).toNat : Nat) = minN V (V.length - 1) by omega]; exact h0)
      refine ⟨k, .inl ⟨hk1, fun t ht h => ?_⟩⟩
      have := h.le
      exact hk2 (V.getD q 0 - t).toNat (by omega) (by rw [show V.getD q 0 - ((V.getD q 0 - t).toNat : Nat) = t by omega]; exact h)
    · refine ⟨V.getD q 0 - minN V (V.length - 1), .inr ⟨fun t => ?_, by rw [show V.getD q 0 - (V.getD q 0 - minN V (V.length - 1)) = minN V (V.length - 1) by omega]; exact hm⟩⟩
      rintro ⟨j, hj, _, hv⟩
      exact hex ⟨j, hj, hv⟩
  rw [riseN_eq hd]; exact hd
/-- by labels -/
theorem hi_lab {t : Int} {r : Nat → Nat} (h : Roots gw V t r) (hq : q < V.length) (ht : t ≤ V.getD q 0) : (∃ i, i < V.length ∧ 0 < labF V t r i ∧ labF V t r i = labF V t r q ∧ V.getD q 0 < V.getD i 0) ↔ HiC gw V t q := by
  constructor
  · rintro ⟨i, hi, h1, h2, h3⟩
    have hvi := lab_pos.1 h1
    have h4 := (lab_eq h hi hq hvi ht).1 h2
    exact ⟨i, hi, ((h.iff hi hq).1 h4).symm, h3⟩
  · rintro ⟨i, hi, c, h3⟩
    have hvi : t ≤ V.getD i 0 := by omega
    exact ⟨i, hi, lab_pos.2 hvi, (lab_eq h hi hq hvi ht).2 ((h.iff hi hq).2 c.symm), h3⟩
theorem IsMax_noHi (hmax : ∀ i, i < V.length → V.getD i 0 ≤ V.getD q 0) {t : Int} : ¬ HiC gw V t q := by
  rintro ⟨j, hj, _, hv⟩
  have := hmax j hj
  omega
end
end Go.Proofs.Ytiidmiebckkloaa
/- Cells by their places: the neighbours that the document lists are those of the program, in the same order. -/
namespace Go.Proofs.Ytiidmiebckkloaa
open Go.RowKit
set_option linter.unusedVariables false
set_option linter.unusedSimpArgs false
set_option maxRecDepth 100000

/-! ### '==' and '!=' between cells -/
theorem guard_agg {P : Program} {w : World} {op : BinOp} {t : TypeId} {x y : Operand} {a b : Array Value} (h : P.eqGuardType P.depth t = false) : (eqGuard op t x y (.agg a) (.agg b)).run P w = .ok () w := by
  unfold eqGuard
  cases op <;> simp [h]
theorem eqCell_run (a b c d : Int) (w : World) : (binOp .eql 40 (.agg #[.int .i64 a, .int .i64 b]) (.agg #[.int .i64 c, .int .i64 d])).run Try.prog w = .ok (.bool (decide (a = c ∧ b = d))) w := by
  have u3 := Try.underlying2
  have a3 := Try.isAgg2
  have z3 := Try.sizeOf2
  have hS : Try.prog.underlying 40 = some (.struct (Try.prog.fieldsOf 40)) := by kernel_rfl
  have hp : Try.prog.stoodInHeld 40 = false := by kernel_rfl
  rw [run_eql_struct, show (10000 : Nat) = 9999 + 1 from rfl, run_equalIn_agg w 9999 40 _ _ hS hp]
  simp only [Program.fieldsOf, Try.underlying40]
  go_simp
  by_cases h1 : a = c <;> by_cases h2 : b = d <;> simp [h1, h2]
theorem neCell_run (a b c d : Int) (w : World) : (binOp .neq 40 (.agg #[.int .i64 a, .int .i64 b]) (.agg #[.int .i64 c, .int .i64 d])).run Try.prog w = .ok (.bool (!decide (a = c ∧ b = d))) w := by
  have u3 := Try.underlying2
  have a3 := Try.isAgg2
  have z3 := Try.sizeOf2
  have hS : Try.prog.underlying 40 = some (.struct (Try.prog.fieldsOf 40)) := by kernel_rfl
  have hp : Try.prog.stoodInHeld 40 = false := by kernel_rfl
  rw [run_neq_struct, show (10000 : Nat) = 9999 + 1 from rfl, run_equalIn_agg w 9999 40 _ _ hS hp]
  simp only [Program.fieldsOf, Try.underlying40]
  go_simp
  by_cases h1 : a = c <;> by_cases h2 : b = d <;> simp [h1, h2]
section
variable {e : Nat → Value} {dd : Option Tmp} {ty : TypeId} {ps : String} {af : Array Edge} {t' : TypeId} {x y : Operand} {a b c d : Int}
theorem op_eqCell {r : Bool} (hx : ev e x = .agg #[.int .i64 a, .int .i64 b]) (hy : ev e y = .agg #[.int .i64 c, .int .i64 d]) (hr : decide (a = c ∧ b = d) = r) : OpV Try.prog e ⟨dd, .binOp .eql 40 x y t', ty, ps, af, none⟩ (.bool r) := by
  intro w
  subst hr
  have hg : ∀ w, (eqGuard .eql 40 x y (.agg #[.int .i64 a, .int .i64 b]) (.agg #[.int .i64 c, .int .i64 d])).run Try.prog w = .ok () w := fun w => guard_agg (by kernel_rfl)
  simp [OpR, execOp, hx, hy, hg, eqCell_run]
theorem op_neCell {r : Bool} (hx : ev e x = .agg #[.int .i64 a, .int .i64 b]) (hy : ev e y = .agg #[.int .i64 c, .int .i64 d]) (hr : (!decide (a = c ∧ b = d)) = r) : OpV Try.prog e ⟨dd, .binOp .neq 40 x y t', ty, ps, af, none⟩ (.bool r) := by
  intro w
  subst hr
  have hg : ∀ w, (eqGuard .neq 40 x y (.agg #[.int .i64 a, .int .i64 b]) (.agg #[.int .i64 c, .int .i64 d])).run Try.prog w = .ok () w := fun w => guard_agg (by kernel_rfl)
  simp [OpR, execOp, hx, hy, hg, neCell_run]
end

/-! ### Cells by their places -/
def cz (gw j : Nat) : Int × Int := (((j % gw : Nat) : Int), ((j / gw : Nat) : Int))
theorem cz_in {gw gh i : Nat} (hgw : 0 < gw) (hi : i < gw * gh) : inG gw gh (cz gw i) = true := by
  have h1 := Nat.mod_lt i hgw
  have h2 : i / gw < gh := Nat.div_lt_of_lt_mul hi
  refine inG_iff.2 ?_
  unfold cz
  dsimp only
  generalize i % gw = x at *
  generalize i / gw = y at *
  omega
theorem cz_idx {gw i : Nat} : (cz gw i).2.toNat * gw + (cz gw i).1.toNat = i := by
  unfold cz
  simp only [Int.toNat_natCast]
  rw [Nat.mul_comm]
  exact Nat.div_add_mod i gw
theorem cz_of {gw X Y : Nat} (hX : X < gw) : cz gw (Y * gw + X) = ((X : Int), (Y : Int)) := by
  have h := cell_split (Y := Y) hX
  unfold cz
  rw [h.1, h.2]
theorem cz_inj {gw i j : Nat} (h : cz gw i = cz gw j) : i = j := by
  rw [← cz_idx (gw := gw) (i := i), h, cz_idx]
theorem filter4 {α : Type} (p : α → Bool) (a b c d : α) : [a, b, c, d].filter p = (if p a then [a] else []) ++ (if p b then [b] else []) ++ (if p c then [c] else []) ++ (if p d then [d] else []) := by
  simp only [List.filter_cons, List.filter_nil]
  cases p a <;> cases p b <;> cases p c <;> cases p d <;> rfl
theorem nearZ_eq {gw gh i : Nat} (hgw : 0 < gw) (hi : i < gw * gh) : nearZ gw gh (i % gw : Nat) (i / gw : Nat) = (nearN gw (gw * gh) i).map (cz gw) := by
  have hX := Nat.mod_lt i hgw
  have hY : i / gw < gh := Nat.div_lt_of_lt_mul hi
  have hd : i / gw * gw + i % gw = i := by rw [Nat.mul_comm]; exact Nat.div_add_mod i gw
  unfold nearZ near4
  rw [filter4]
  unfold nearN
  generalize i % gw = X at *
  generalize i / gw = Y at *
  have up1 : gw ≤ i ↔ 1 ≤ Y := by
    constructor
    · intro h; rcases Nat.eq_zero_or_pos Y with e | e
      · subst e; omega
      · exact e
    · intro h; have := Nat.mul_le_mul_right gw h; omega
  have dn1 : i + gw < gw * gh ↔ Y + 1 < gh := by
    constructor
    · intro h
      rcases Nat.lt_or_ge (Y + 1) gh with e | e
      · exact e
      · have := Nat.mul_le_mul_left gw e
        rw [Nat.mul_add, Nat.mul_one, Nat.mul_comm gw Y] at this
        omega
    · intro h
      have h2 : Y + 2 ≤ gh := h
      have := Nat.mul_le_mul_left gw h2
      rw [Nat.mul_add, Nat.mul_comm gw Y] at this
      omega
  have e1 : inG gw gh ((X : Int), (Y : Int) - 1) = decide (gw ≤ i) := by
    rw [Bool.eq_iff_iff, inG_iff, decide_eq_true_eq, up1]; dsimp only; omega
  have e2 : inG gw gh ((X : Int) - 1, (Y : Int)) = decide (0 < X) := by
    rw [Bool.eq_iff_iff, inG_iff, decide_eq_true_eq]; dsimp only; omega
  have e3 : inG gw gh ((X : Int) + 1, (Y : Int)) = decide (X + 1 < gw) := by
    rw [Bool.eq_iff_iff, inG_iff, decide_eq_true_eq]; dsimp only; omega
  have e4 : inG gw gh ((X : Int), (Y : Int) + 1) = decide (i + gw < gw * gh) := by
    rw [Bool.eq_iff_iff, inG_iff, decide_eq_true_eq, dn1]; dsimp only; omega
  rw [e1, e2, e3, e4]
  simp only [List.map_append, decide_eq_true_eq]
  have p1 : (if gw ≤ i then [((X : Int), (Y : Int) - 1)] else []) = List.map (cz gw) (if gw ≤ i then [i - gw] else []) := by
    by_cases h : gw ≤ i
    · rw [if_pos h, if_pos h]
      have h1 := up1.1 h
      have h2 : i - gw = (Y - 1) * gw + X := by rw [Nat.sub_mul, Nat.one_mul]; have := Nat.mul_le_mul_right gw h1; omega
      rw [h2, List.map_singleton, cz_of hX]
      congr 2; omega
    · rw [if_neg h, if_neg h]; rfl
  have p2 : (if 0 < X then [((X : Int) - 1, (Y : Int))] else []) = List.map (cz gw) (if 0 < X then [i - 1] else []) := by
    by_cases h : 0 < X
    · rw [if_pos h, if_pos h, show i - 1 = Y * gw + (X - 1) by omega, List.map_singleton, cz_of (by omega)]
      congr 2; omega
    · rw [if_neg h, if_neg h]; rfl
  have p3 : (if X + 1 < gw then [((X : Int) + 1, (Y : Int))] else []) = List.map (cz gw) (if X + 1 < gw then [i + 1] else []) := by
    by_cases h : X + 1 < gw
    · rw [if_pos h, if_pos h, show i + 1 = Y * gw + (X + 1) by omega, List.map_singleton, cz_of h]
      congr 2
    · rw [if_neg h, if_neg h]; rfl
  have p4 : (if i + gw < gw * gh then [((X : Int), (Y : Int) + 1)] else []) = List.map (cz gw) (if i + gw < gw * gh then [i + gw] else []) := by
    by_cases h : i + gw < gw * gh
    · rw [if_pos h, if_pos h, show i + gw = (Y + 1) * gw + X by rw [Nat.add_mul, Nat.one_mul]; omega, List.map_singleton, cz_of hX]
      congr 2
    · rw [if_neg h, if_neg h]; rfl
  rw [p1, p2, p3, p4]
end Go.Proofs.Ytiidmiebckkloaa
/- The document's costs: contracts of the references. -/
namespace Go.Proofs.Ytiidmiebckkloaa
open Go.RowKit
set_option linter.unusedVariables false
set_option linter.unusedSimpArgs false
set_option maxRecDepth 100000

def cellV (gw i : Nat) : Value := .agg #[.int .i64 (i % gw : Nat), .int .i64 (i / gw : Nat)]
theorem cellsQ_snoc (n : Nat) (o : Nat → Int) : cellsQ (n + 1) o = cellsQ n o ++ [.int .i64 (o n)] := by simp [cellsQ, List.range_succ]
section
variable {W : World} {A : Option Addr} {gw gh cap : Nat} {V : List Int}
theorem matI_E (i : Nat) (hgw : 0 < gw) (hi : i < gw * gh) (hV : V.length = gw * gh) (hm : gw * gh ≤ 1048576) (hA : Rd W A (ints V)) :
    Fn Try.prog 15 [modV gw gh A V.length cap, .agg #[.int .i64 (i % gw : Nat), .int .i64 (i / gw : Nat)]] W (RetG (.tuple #[.int .i64 (V.getD i 0), .int .i64 0]) W) := by
  have := mat_E (W := W) (A := A) (cap := cap) (cz gw i).1 (cz gw i).2 (cz_in hgw hi) hV hm hA
  rw [cz_idx] at this
  exact this
theorem nearI_E (i : Nat) (hgw : 0 < gw) (hi : i < gw * gh) (hV : V.length = gw * gh) (hm : gw * gh ≤ 1048576) (hA : Rd W A (ints V)) :
    Fn Try.prog 35 [modV gw gh A V.length cap, .agg #[.int .i64 (i % gw : Nat), .int .i64 (i / gw : Nat)]] W (RetNew id 40 2 (nearN gw V.length i).length (cellsZ ((nearN gw V.length i).map (cz gw))) W) := by
  have h1 := Nat.mod_le i gw
  have h2 := Nat.div_le_self i gw
  have := rnear_E (W := W) (A := A) (cap := cap) (i % gw : Nat) (i / gw : Nat) (by generalize i % gw = x at *; omega) (by generalize i / gw = y at *; omega) hV hm hA
  rw [nearZ_eq hgw hi, List.length_map, ← hV] at this
  exact this
end
end Go.Proofs.Ytiidmiebckkloaa
