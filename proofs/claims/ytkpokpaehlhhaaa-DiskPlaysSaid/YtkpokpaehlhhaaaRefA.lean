/- The document's disk: what is seen of a file, and the room that is left. -/
import Derived.Test.YtkpokpaehlhhaaaSep
import Derived.Test.YtkpokpaehlhhaaaDisk8
namespace Go.Proofs.Ytkpokpaehlhhaaa
open Go.RowKit
set_option linter.unusedVariables false
set_option linter.unusedSimpArgs false
set_option maxRecDepth 100000

theorem info_t5 : (Try.prog.info? 5).map (fun i => (i.zero, i.size, i.bytes)) = some (some (.int .u8 0), 1, 1) := by kernel_rfl
theorem info_t92 : (Try.prog.info? 92).map (fun i => (i.zero, i.size, i.bytes)) = some (some (.agg #[.int .i64 0, .int .u8 0, .int .i64 0]), 3, 24) := by kernel_rfl
section
variable {P : Program} {ops : Array Oper} {Q : (Nat → Value) → World → Prop} {e : Nat → Value} {W w : World} {rest : List Oper} {F : Nat → Prop} {L : List HA}
variable {d : Option Tmp} {ty : TypeId} {ps : String} {af : Array Edge}
/-- append of what may be nothing -/
theorem rw_appE {i : Nat} {s x : Operand} {t el bytes k n c m c2 : Nat} {A B : Option Addr} {z : Value} {xs ys : List Value} {f : HA → List HA} (S : St F W w L) (hi : getO L i = some (.row el k A n c xs)) (hf : ∀ h, setO L i h = some (f h))
    (hu : P.underlying t = some (.slice el)) (hI : (P.info? el).map (fun i => (i.zero, i.size, i.bytes)) = some (some z, k, bytes)) (hz : Nat.beq z.cells.size k = true) (hk : Nat.blt 0 k = true)
    (hs : ev e s = .slice A n c) (hx : ev e x = .slice B m c2) (hm : ys.length = m * k) (hc0 : B = none → c2 = 0) (hR : Rd w B ys) (h1 : (ys.all fun v => v.oneCell') = true) (hb : (n + m) * (bytes + 1) ≤ 140737488355328)
    (hr : ∀ A' c' w', St F W w' (f (.row el k A' (n + m) c' (xs ++ ys))) → RW P ops Q rest (updO e d (.slice A' (n + m) c')) w') :
    RW P ops Q (⟨d, .call ⟨.builtin .append, #[s, x], #[t, t]⟩, ty, ps, af, none⟩ :: rest) e w := by
  obtain ⟨inf, hinf, hz0, hz1, hz2⟩ := info_parts hI
  have hk0 : 0 < k := Nat.le_of_ble_eq_true hk
  have hz' := Nat.eq_of_beq_eq_true hz
  have hb1 : (n + m) * bytes ≤ 140737488355328 := Nat.le_trans (Nat.mul_le_mul_left _ (by omega)) hb
  have hb2 : n + m ≤ 140737488355328 := Nat.le_trans (Nat.le_mul_of_pos_right _ (by omega)) hb
  have hRow := S.row hi
  have hR' : (B = none ∧ ys = []) ∨ ∃ a, B = some a ∧ ∀ (j : Nat) u, ys[j]? = some u → w.cell? (a.add j) = some u := by
    rcases hR with rfl | ⟨b, o, rfl, hlt, hc⟩
    · cases B with
      | none => exact .inl ⟨rfl, rfl⟩
      | some a => exact .inr ⟨a, rfl, fun j u hu => by cases hu⟩
    · exact .inr ⟨_, rfl, fun j u hu => by rw [addr_add]; exact hc j u hu⟩
  rcases hR' with ⟨rfl, rfl⟩ | ⟨a, rfl, hc⟩
  · have hm0 : m = 0 := by
      rcases Nat.eq_zero_or_pos m with h | h
      · exact h
      · have := Nat.mul_pos h hk0; simp at hm; omega
    have hc0 := hc0 rfl
    subst hm0 hc0
    have := run_append_owned_none (P := P) (w := w) 0 t ty el inf k hu hinf (.slice A n c) n xs hRow
    refine rw_w (v := .slice A (n + 0) c) (w' := w) ?_ (hr A c w ?_)
    · simp [execOp, resolve, invoke, builtin, hs, hx, this]
    · refine S.as_ hi (hf _) (fun h => ?_) (fun g h => h)
      rw [List.append_nil]
      exact h
  · obtain ⟨v', w', hrun, ho, hg, _, hob⟩ := run_append_own_at (P := P) w 0 t ty el inf z k bytes hu hinf hz0 hz1 hz2 hz' hk0 (.slice A n c) n xs hRow a m c2 ys hm
      hc (fun u hu => List.all_eq_true.1 h1 u hu) (by unfold maxLen; omega) hb1 (by omega)
    obtain ⟨A', c', rfl⟩ := Own.form ho
    have hRow' : Row w' el k A' (n + m) c' (xs ++ ys) := ho
    refine rw_w (v := .slice A' (n + m) c') (w' := w') ?_ (hr A' c' w' ?_)
    · simp [execOp, resolve, invoke, builtin, hs, hx, hrun]
    · refine S.set hi (hf _) (Fr.of_grown (F := fun g => ownA A g) hg (fun g e => ?_)) (fun g e => .inl e) hRow' (fun g e => ?_)
      · cases A with
        | none => cases e
        | some a => exact e
      · have e' : (Value.slice A' (n + m) c').ownBlock = some g := by
          cases A' with
          | none => cases e
          | some a => exact e
        rw [e'] at hob
        rcases hob with h | h
        · left
          cases A with
          | none => cases h
          | some a => exact h.symm
        · injection h with h; right; omega
end

def DU.c3 : DU → List Value
  | .add f b => [.int .i64 f, .int .u8 b, .int .i64 (-1)]
  | .cut f n => [.int .i64 f, .int .u8 0, .int .i64 n]
def unitsV (us : List DU) : List Value := us.flatMap DU.c3
theorem DU.c3_len (u : DU) : u.c3.length = 3 := by cases u <;> rfl
theorem unitsV_len : ∀ us : List DU, (unitsV us).length = us.length * 3
  | [] => rfl
  | u :: us => by
    have := unitsV_len us
    unfold unitsV at *
    rw [List.flatMap_cons, List.length_append, this, u.c3_len, List.length_cons, Nat.succ_mul, Nat.add_comm]
theorem unitsV_at : ∀ {us : List DU} {k : Nat} {u : DU}, us[k]? = some u → ((unitsV us).drop (k * 3)).take 3 = u.c3
  | [], k, u, h => by cases h
  | u' :: us, 0, u, h => by
    obtain rfl : u' = u := by simpa using h
    have := u'.c3_len
    unfold unitsV
    rw [List.flatMap_cons, Nat.zero_mul, List.drop_zero, List.take_append_of_le_length (by omega), List.take_of_length_le (by omega)]
  | u' :: us, k + 1, u, h => by
    have ih := unitsV_at (us := us) (k := k) (u := u) (by simpa using h)
    have := u'.c3_len
    unfold unitsV at *
    rw [List.flatMap_cons, List.drop_append, this, Nat.succ_mul, show k * 3 + 3 - 3 = k * 3 by omega, List.drop_of_length_le (by omega), List.nil_append, ih]
theorem unitsV_take : ∀ (us : List DU) (k : Nat), unitsV (us.take k) = (unitsV us).take (k * 3)
  | [], k => by simp [unitsV]
  | u :: us, 0 => by simp [unitsV]
  | u :: us, k + 1 => by
    have ih := unitsV_take us k
    have := u.c3_len
    unfold unitsV at *
    rw [List.take_succ_cons, List.flatMap_cons, List.flatMap_cons, List.take_append, this, Nat.succ_mul, show k * 3 + 3 - 3 = k * 3 by omega, List.take_of_length_le (l := u.c3) (by omega), ih]
theorem unitsV_one (us : List DU) : ((unitsV us).all fun v => v.oneCell') = true := by
  unfold unitsV
  rw [List.all_flatMap]
  refine List.all_eq_true.2 fun u _ => ?_
  cases u <;> rfl
theorem unitsV_append (a b : List DU) : unitsV (a ++ b) = unitsV a ++ unitsV b := List.flatMap_append
theorem c8_one (bs : List Int) : ((c8 bs).all fun v => v.oneCell') = true := by
  unfold c8; rw [List.all_map]; exact List.all_eq_true.2 fun _ _ => rfl
/-- blocks that stood before -/
def FO (F : Nat → Prop) (W : World) : Prop := ∀ g, F g → g < W.heap.size
theorem FO.up {F : Nat → Prop} {W w : World} (h : FO F W) (g : Gr W w) : FO F w := fun x hx => Nat.lt_of_lt_of_le (h x hx) g.le
/-- a slice that reads so, apart from the blocks of F -/
structure Sl (F : Nat → Prop) (w : World) (A : Option Addr) (n c : Nat) (xs : List Value) : Prop where
  rd : Rd w A xs
  cap : n ≤ c
  nil : A = none → c = 0
  out : xs ≠ [] → ∀ a, A = some a → ¬ F a.block
theorem Sl.gr {F : Nat → Prop} {w w' : World} {A : Option Addr} {n c : Nat} {xs : List Value} (h : Sl F w A n c xs) (g : Gr w w') : Sl F w' A n c xs := ⟨h.rd.gr g, h.cap, h.nil, h.out⟩
theorem Sl.fr {F F' : Nat → Prop} {w w' : World} {A : Option Addr} {n c : Nat} {xs : List Value} (h : Sl F w A n c xs) (k : Fr F w w') (hF : ∀ g, F' g → F g ∨ w.heap.size ≤ g) : Sl F' w' A n c xs := by
  by_cases hx : xs = []
  · subst hx
    exact ⟨.inl rfl, h.cap, h.nil, fun h => absurd rfl h⟩
  · refine ⟨h.rd.fr k (h.out hx), h.cap, h.nil, fun _ a ha hFa => ?_⟩
    rcases h.rd with h0 | ⟨b, o, e, hlt, _⟩
    · exact hx h0
    · rw [e] at ha
      cases ha
      exact (hF _ hFa).elim (h.out hx _ e) (fun h => by have h : w.heap.size ≤ b := h; omega)
theorem Row.sl {F : Nat → Prop} {W w : World} {el k n c : Nat} {A : Option Addr} {xs : List Value} (h : Row w el k A n c xs) (hF : FO F W) (hA : FreshA W A) : Sl F w A n c xs := by
  refine ⟨h.rd, h.cap, fun e => ?_, fun _ a ha hFa => ?_⟩
  · rcases h.form with ⟨_, _, hc, _⟩ | ⟨g, l, hA, _⟩
    · exact hc
    · rw [e] at hA; cases hA
  · subst ha
    have h1 := hA a.block rfl
    have h2 := hF _ hFa
    omega
/-- the value of the document's disk, the parts named -/
structure RefAt (F : Nat → Prop) (w : World) (s : DS) (A0 A1 Aw : Option Addr) (c0 c1 cw : Nat) : Prop where
  f0 : Sl F w A0 s.last.1.length c0 (c8 s.last.1)
  f1 : Sl F w A1 s.last.2.length c1 (c8 s.last.2)
  us : Sl F w Aw s.waits.length cw (unitsV s.waits)
def DS.ref (s : DS) (A0 A1 Aw : Option Addr) (c0 c1 cw : Nat) : List Value := [.int .i64 s.room, .slice A0 s.last.1.length c0, .slice A1 s.last.2.length c1, .slice Aw s.waits.length cw, .bool s.fused, .int .i64 s.fuse, .bool s.dark]
def RefIs (F : Nat → Prop) (w : World) (v : Value) (s : DS) : Prop := ∃ A0 A1 Aw c0 c1 cw, v = .agg (s.ref A0 A1 Aw c0 c1 cw).toArray ∧ RefAt F w s A0 A1 Aw c0 c1 cw
theorem RefAt.gr {F : Nat → Prop} {w w' : World} {s : DS} {A0 A1 Aw : Option Addr} {c0 c1 cw : Nat} (h : RefAt F w s A0 A1 Aw c0 c1 cw) (g : Gr w w') : RefAt F w' s A0 A1 Aw c0 c1 cw := ⟨h.f0.gr g, h.f1.gr g, h.us.gr g⟩
theorem RefIs.gr {F : Nat → Prop} {w w' : World} {v : Value} {s : DS} (h : RefIs F w v s) (g : Gr w w') : RefIs F w' v s := by
  obtain ⟨A0, A1, Aw, c0, c1, cw, rfl, h⟩ := h
  exact ⟨A0, A1, Aw, c0, c1, cw, rfl, h.gr g⟩
def onL (f : Nat) : DU → List Int → List Int
  | .add g b, l => if g = f then l ++ [b] else l
  | .cut g n, l => if g = f then l.take n else l
theorem fileOf_on (f : Nat) (hf : f = 0 ∨ f = 1) (u : DU) (fs : List Int × List Int) (hu : u.ok fs) : fileOf f (u.on fs) = onL f u (fileOf f fs) := by
  obtain ⟨x, y⟩ := fs
  cases u with
  | add g b =>
    rcases hu.1 with rfl | rfl <;> rcases hf with rfl | rfl <;> simp [DU.on, fileOf, onL]
  | cut g n =>
    rcases hu with ⟨rfl, _⟩ | ⟨rfl, _⟩ <;> rcases hf with rfl | rfl <;> simp [DU.on, fileOf, onL]
theorem oks_file {us : List DU} : ∀ {fs : List Int × List Int}, oks us fs → ∀ u ∈ us, match u with | .add g _ => g = 0 ∨ g = 1 | .cut g _ => g = 0 ∨ g = 1 := by
  induction us with
  | nil => intro fs _ u hu; cases hu
  | cons v us ih =>
    intro fs h u hu
    rcases List.mem_cons.1 hu with rfl | hu
    · have h1 := h.1
      cases u with
      | add g b => exact h1.1
      | cut g n => exact h1.elim (fun h => .inl h.1) (fun h => .inr h.1)
    · exact ih h.2 u hu
section
variable {F : Nat → Prop} {A0 A1 Aw : Option Addr} {c0 c1 cw : Nat}
theorem c8_append (a b : List Int) : c8 (a ++ b) = c8 a ++ c8 b := List.map_append
def seenL (f k : Nat) (s : DS) : List Int := fileOf f (runs (s.waits.take k) s.last)
theorem seenL_len (f k : Nat) (s : DS) : (seenL f k s).length ≤ max s.last.1.length s.last.2.length + k := by
  have h := runs_length (s.waits.take k) s.last
  have h2 : (s.waits.take k).length ≤ k := by rw [List.length_take]; omega
  unfold seenL fileOf
  split <;> omega
theorem seen_next {f k : Nat} (hf : f = 0 ∨ f = 1) {s : DS} {u : DU} (hu : s.waits[k]? = some u) (ho : oks s.waits s.last) : seenL f (k + 1) s = onL f u (seenL f k s) := by
  unfold seenL
  rw [runs_next hu]
  exact fileOf_on f hf u _ (oks_at ho hu)
set_option maxHeartbeats 2000000 in
theorem seen_E (s : DS) (f : Nat) (hf : f = 0 ∨ f = 1) (B : Nat) (hB : B < 274877906944) (hok : oks s.waits s.last) (h1 : s.last.1.length + s.waits.length ≤ B) (h2 : s.last.2.length + s.waits.length ≤ B) (W : World) (hF : FO F W) (hR : RefAt F W s A0 A1 Aw c0 c1 cw) :
    Fn Try.prog 17 [.agg (s.ref A0 A1 Aw c0 c1 cw).toArray, .int .i64 f] W (RetNew id 5 1 (fileOf f (runs s.waits s.last)).length (c8 (fileOf f (runs s.waits s.last))) W) := by
  obtain ⟨Af, nf, cf, xf, hxf, hget, hSl, hnf, hnb⟩ : ∃ Af nf cf, ∃ xf : List Int, xf = fileOf f s.last ∧ (s.ref A0 A1 Aw c0 c1 cw)[1 + f]? = some (.slice Af nf cf) ∧ Sl F W Af nf cf (c8 xf) ∧ nf = xf.length ∧ nf ≤ B := by
    rcases hf with rfl | rfl
    · exact ⟨A0, _, c0, _, rfl, rfl, hR.f0, rfl, by omega⟩
    · exact ⟨A1, _, c1, _, rfl, rfl, hR.f1, rfl, by omega⟩
  have hAf := hSl.rd
  have hAw := hR.us.rd
  have hcut : ∀ k, (seenL f k s).length ≤ max s.last.1.length s.last.2.length + k := fun k => seenL_len f k s
  have S := St.start W
  refine Fn_enter Try.func17 rfl Try.results17 Try.ntmps17 (by kernel_rfl) (by kernel_rfl) ?_
  repeat refine cw_seq ?_
  refine cw_region ?_
  refine rw_newB (op_box rfl) S ?_
  intro b_D w2_ g2_ S
  refine rw_v (op_pure rfl) ?_
  first | refine rw_end ?_ | (refine rw_nil ?_; show CW _ _ _ _ _ _) | refine rw_nil ?_
  repeat refine cw_seq ?_
  refine cw_region ?_
  refine rw_buildS0 Try.underlying29 Try.sizeOf5 S ?_
  intro A_bs w4_ g4_ S sa_bs
  refine rw_v (op_pure rfl) ?_
  refine rw_v (op_fieldAddr Try.underlying33 rfl Try.sizeOf30 rfl rfl) ?_
  refine rw_v (op_indexAddrQ Try.underlying30 Try.sizeOf29 rfl rfl (by omega) (by omega) (o' := 1 + f) (by simp)) ?_
  refine rw_r (op_loadB Try.underlying29 rfl rfl (S.blk (i := 1) rfl) hget) ?_
  refine rw_appE (i := 0) S rfl (fun h => rfl) Try.underlying29 info_t5 rfl rfl rfl rfl (m := nf) (ys := c8 xf) (by rw [c8_length]; omega) hSl.nil (hAf.gr S.out) (c8_one _) (by omega) ?_
  intro A_r c_r w9 S
  refine rw_v (op_pure rfl) ?_
  first | refine rw_end ?_ | (refine rw_nil ?_; show CW _ _ _ _ _ _) | refine rw_nil ?_
  repeat refine cw_seq ?_
  refine cw_region ?_
  refine rw_v (op_pure rfl) ?_
  first | refine rw_end ?_ | (refine rw_nil ?_; show CW _ _ _ _ _ _) | refine rw_nil ?_
  repeat refine cw_seq ?_
  refine cw_block ?_
  repeat refine cw_seq ?_
  subst hnf
  have e0 : seenL f 0 s = xf := hxf.symm
  rw [Nat.zero_add, List.nil_append] at S
  have S0 : St No W w9 [.row 5 1 A_r (seenL f 0 s).length c_r (c8 (seenL f 0 s)), .blk b_D 33 (s.ref A0 A1 Aw c0 c1 cw)] := by rw [e0]; exact S
  refine cw_loop (fun m e w => ∃ (k : Nat) (A : Option Addr) (c : Nat), k + m = s.waits.length ∧ SL e [(1, .int .i64 f), (2, .pointer (some ⟨b_D, 0, none⟩)), (5, .slice A (seenL f k s).length c), (6, .int .i64 k)] ∧
    St No W w [.row 5 1 A (seenL f k s).length c (c8 (seenL f k s)), .blk b_D 33 (s.ref A0 A1 Aw c0 c1 cw)]) s.waits.length
    ⟨0, A_r, c_r, by omega, ⟨rfl, rfl, by rw [e0]; show Value.slice A_r (0 + xf.length) c_r = _; rw [Nat.zero_add], rfl, trivial⟩, S0⟩ ?_
  rintro m e w ⟨k, A, c, hk, hsl, S⟩
  rw [hsl.fold]
  repeat refine cw_seq ?_
  refine cw_region ?_
  refine rw_v (op_pure rfl) ?_
  refine rw_v (op_fieldAddr Try.underlying33 rfl Try.sizeOf31 rfl rfl) ?_
  refine rw_r (op_loadB Try.underlying31 rfl rfl (S.blk (i := 1) rfl) rfl) ?_
  refine rw_v (op_len Try.underlying31 rfl) ?_
  refine rw_v (op_pure rfl) ?_
  first | refine rw_end ?_ | (refine rw_nil ?_; show CW _ _ _ _ _ _) | refine rw_nil ?_
  repeat refine cw_seq ?_
  refine cw_cond rfl (fun hc => ?_) (fun hc => ?_)
  · try simp only [decide_eq_true_eq, decide_eq_false_iff_not, beq_iff_eq, bne_iff_ne, beq_eq_false_iff_ne, bne_eq_false_iff_eq, Bool.not_eq_true', Bool.not_eq_false', ne_eq, Decidable.not_not, Int.natCast_inj, Int.ofNat_lt, Int.ofNat_le, gt_iff_lt, ge_iff_le, Int.not_lt, Int.not_le] at hc
    obtain ⟨u, hu⟩ : ∃ u, s.waits[k]? = some u := ⟨s.waits[k], List.getElem?_eq_getElem (by omega)⟩
    have hkl := hcut k
    have huo := oks_at hok hu
    have hne := seen_next hf hu hok
    have hat := unitsV_at hu
    have sa_Aw : SomeA Aw := hAw.someA (by rw [unitsV_len]; omega)
    cases u with
    | add g b =>
      have hat2 : ((unitsV s.waits).drop ((k : Int).toNat * 3)).take 3 = [.int .i64 g, .int .u8 b, .int .i64 (-1)] := by rw [Int.toNat_natCast]; exact hat
      repeat refine cw_seq ?_
      refine cw_skip ?_
      try show CW _ _ _ _ _ _
      repeat refine cw_seq ?_
      refine cw_block ?_
      repeat refine cw_seq ?_
      refine cw_region ?_
      refine rw_v (op_fieldAddr Try.underlying33 rfl Try.sizeOf31 rfl rfl) ?_
      refine rw_r (op_loadB Try.underlying31 rfl rfl (S.blk (i := 1) rfl) rfl) ?_
      refine rw_v (op_pure rfl) ?_
      refine rw_v (op_idx Try.underlying31 Try.sizeOf92 rfl rfl sa_Aw (by omega) (by omega)) ?_
      refine rw_r (op_ldRA Try.underlying92 rfl (Try.sizeOf92 _) rfl (hAw.gr S.out) hat2 rfl rfl) ?_
      refine rw_newB (op_alloc Try.zeroValue92 rfl) S ?_
      intro b_u w6_ g6_ S
      refine rw_storeSA (i := 0) S rfl (Try.sizeOf92 _) rfl rfl rfl rfl rfl rfl ?_
      intro w7_ S
      first | refine rw_end ?_ | (refine rw_nil ?_; show CW _ _ _ _ _ _) | refine rw_nil ?_
      repeat refine cw_seq ?_
      refine cw_region ?_
      refine rw_v (op_fieldAddr Try.underlying92 rfl Try.sizeOf3 rfl rfl) ?_
      refine rw_r (op_loadB Try.underlying3 rfl rfl (S.blk (i := 0) rfl) rfl) ?_
      refine rw_v (op_pure rfl) ?_
      refine rw_v (op_pure rfl) ?_
      first | refine rw_end ?_ | (refine rw_nil ?_; show CW _ _ _ _ _ _) | refine rw_nil ?_
      repeat refine cw_seq ?_
      refine cw_cond rfl (fun hgf => ?_) (fun hgf => ?_)
      · try simp only [decide_eq_true_eq, decide_eq_false_iff_not, beq_iff_eq, bne_iff_ne, beq_eq_false_iff_ne, bne_eq_false_iff_eq, Bool.not_eq_true', Bool.not_eq_false', ne_eq, Decidable.not_not, Int.natCast_inj, Int.ofNat_lt, Int.ofNat_le, gt_iff_lt, ge_iff_le, Int.not_lt, Int.not_le] at hgf
        repeat refine cw_seq ?_
        refine cw_exit ?_
        repeat first | refine exit_then ?_ | refine exit_inb ?_
        show CW _ _ _ _ _ _
        repeat refine cw_seq ?_
        refine cw_region ?_
        refine rw_v (op_pure rfl) ?_
        refine rw_v (op_rng rfl (by omega)) ?_
        refine rw_v (op_pure rfl) ?_
        first | refine rw_end ?_ | (refine rw_nil ?_; show CW _ _ _ _ _ _) | refine rw_nil ?_
        have hgf' : ¬ g = f := fun h => hgf (by exact_mod_cast h)
        simp only [onL, if_neg hgf'] at hne
        refine ⟨m - 1, by omega, k + 1, A, c, by omega, ⟨rfl, rfl, by rw [hne]; rfl, ie (by omega), trivial⟩, ?_⟩
        rw [hne]; exact S.drop 1
      · try simp only [decide_eq_true_eq, decide_eq_false_iff_not, beq_iff_eq, bne_iff_ne, beq_eq_false_iff_ne, bne_eq_false_iff_eq, Bool.not_eq_true', Bool.not_eq_false', ne_eq, Decidable.not_not, Int.natCast_inj, Int.ofNat_lt, Int.ofNat_le, gt_iff_lt, ge_iff_le, Int.not_lt, Int.not_le] at hgf
        repeat refine cw_seq ?_
        refine cw_skip ?_
        try show CW _ _ _ _ _ _
        repeat refine cw_seq ?_
        refine cw_region ?_
        refine rw_v (op_fieldAddr Try.underlying92 rfl Try.sizeOf2 rfl rfl) ?_
        refine rw_r (op_loadB Try.underlying2 rfl rfl (S.blk (i := 0) rfl) rfl) ?_
        refine rw_v (op_b (b := false) rfl (decide_eq_false (by omega))) ?_
        first | refine rw_end ?_ | (refine rw_nil ?_; show CW _ _ _ _ _ _) | refine rw_nil ?_
        repeat refine cw_seq ?_
        refine cw_false rfl ?_
        repeat refine cw_seq ?_
        refine cw_region ?_
        refine rw_v (op_pure rfl) ?_
        refine rw_v (op_fieldAddr Try.underlying92 rfl Try.sizeOf5 rfl rfl) ?_
        refine rw_r (op_loadB Try.underlying5 rfl rfl (S.blk (i := 0) rfl) rfl) ?_
        refine rw_buildS Try.underlying29 Try.sizeOf5 Try.zeroValue5 rfl rfl rfl rfl rfl rfl S ?_
        intro A_b8 w9_ g9_ S sa_b8
        refine rw_appS (i := 2) S rfl (fun h => rfl) Try.underlying29 info_t5 rfl rfl rfl rfl (by simp) (by omega) (S.rd (i := 0) rfl) rfl (by omega) ?_
        intro A_bs10 c_bs10 w10_ S sa_bs
        refine rw_v (op_pure rfl) ?_
        first | refine rw_end ?_ | (refine rw_nil ?_; show CW _ _ _ _ _ _) | refine rw_nil ?_
        repeat refine cw_seq ?_
        refine cw_region ?_
        refine rw_v (op_pure rfl) ?_
        refine rw_v (op_rng rfl (by omega)) ?_
        refine rw_v (op_pure rfl) ?_
        first | refine rw_end ?_ | (refine rw_nil ?_; show CW _ _ _ _ _ _) | refine rw_nil ?_
        have hgf' : g = f := by exact_mod_cast hgf
        simp only [onL, if_pos hgf'] at hne
        refine ⟨m - 1, by omega, k + 1, _, _, by omega, ⟨rfl, rfl, by rw [hne, List.length_append]; rfl, ie (by omega), trivial⟩, ?_⟩
        rw [hne, List.length_append, c8_append]
        exact S.drop 2
    | cut g n =>
      have hat2 : ((unitsV s.waits).drop ((k : Int).toNat * 3)).take 3 = [.int .i64 g, .int .u8 0, .int .i64 n] := by rw [Int.toNat_natCast]; exact hat
      repeat refine cw_seq ?_
      refine cw_skip ?_
      try show CW _ _ _ _ _ _
      repeat refine cw_seq ?_
      refine cw_block ?_
      repeat refine cw_seq ?_
      refine cw_region ?_
      refine rw_v (op_fieldAddr Try.underlying33 rfl Try.sizeOf31 rfl rfl) ?_
      refine rw_r (op_loadB Try.underlying31 rfl rfl (S.blk (i := 1) rfl) rfl) ?_
      refine rw_v (op_pure rfl) ?_
      refine rw_v (op_idx Try.underlying31 Try.sizeOf92 rfl rfl sa_Aw (by omega) (by omega)) ?_
      refine rw_r (op_ldRA Try.underlying92 rfl (Try.sizeOf92 _) rfl (hAw.gr S.out) hat2 rfl rfl) ?_
      refine rw_newB (op_alloc Try.zeroValue92 rfl) S ?_
      intro b_u w12_ g12_ S
      refine rw_storeSA (i := 0) S rfl (Try.sizeOf92 _) rfl rfl rfl rfl rfl rfl ?_
      intro w13_ S
      first | refine rw_end ?_ | (refine rw_nil ?_; show CW _ _ _ _ _ _) | refine rw_nil ?_
      repeat refine cw_seq ?_
      refine cw_region ?_
      refine rw_v (op_fieldAddr Try.underlying92 rfl Try.sizeOf3 rfl rfl) ?_
      refine rw_r (op_loadB Try.underlying3 rfl rfl (S.blk (i := 0) rfl) rfl) ?_
      refine rw_v (op_pure rfl) ?_
      refine rw_v (op_pure rfl) ?_
      first | refine rw_end ?_ | (refine rw_nil ?_; show CW _ _ _ _ _ _) | refine rw_nil ?_
      repeat refine cw_seq ?_
      refine cw_cond rfl (fun hgf => ?_) (fun hgf => ?_)
      · try simp only [decide_eq_true_eq, decide_eq_false_iff_not, beq_iff_eq, bne_iff_ne, beq_eq_false_iff_ne, bne_eq_false_iff_eq, Bool.not_eq_true', Bool.not_eq_false', ne_eq, Decidable.not_not, Int.natCast_inj, Int.ofNat_lt, Int.ofNat_le, gt_iff_lt, ge_iff_le, Int.not_lt, Int.not_le] at hgf
        repeat refine cw_seq ?_
        refine cw_exit ?_
        repeat first | refine exit_then ?_ | refine exit_inb ?_
        show CW _ _ _ _ _ _
        repeat refine cw_seq ?_
        refine cw_region ?_
        refine rw_v (op_pure rfl) ?_
        refine rw_v (op_rng rfl (by omega)) ?_
        refine rw_v (op_pure rfl) ?_
        first | refine rw_end ?_ | (refine rw_nil ?_; show CW _ _ _ _ _ _) | refine rw_nil ?_
        have hgf' : ¬ g = f := fun h => hgf (by exact_mod_cast h)
        simp only [onL, if_neg hgf'] at hne
        refine ⟨m - 1, by omega, k + 1, A, c, by omega, ⟨rfl, rfl, by rw [hne]; rfl, ie (by omega), trivial⟩, ?_⟩
        rw [hne]; exact S.drop 1
      · try simp only [decide_eq_true_eq, decide_eq_false_iff_not, beq_iff_eq, bne_iff_ne, beq_eq_false_iff_ne, bne_eq_false_iff_eq, Bool.not_eq_true', Bool.not_eq_false', ne_eq, Decidable.not_not, Int.natCast_inj, Int.ofNat_lt, Int.ofNat_le, gt_iff_lt, ge_iff_le, Int.not_lt, Int.not_le] at hgf
        have hgf' : g = f := by exact_mod_cast hgf
        simp only [onL, if_pos hgf'] at hne
        have hn : n ≤ (seenL f k s).length := by
          rcases huo with ⟨h, hn⟩ | ⟨h, hn⟩
          · rw [← hgf', h]; exact hn
          · rw [← hgf', h]; exact hn
        have hcap := (S.row (i := 1) rfl).cap
        repeat refine cw_seq ?_
        refine cw_skip ?_
        try show CW _ _ _ _ _ _
        repeat refine cw_seq ?_
        refine cw_region ?_
        refine rw_v (op_fieldAddr Try.underlying92 rfl Try.sizeOf2 rfl rfl) ?_
        refine rw_r (op_loadB Try.underlying2 rfl rfl (S.blk (i := 0) rfl) rfl) ?_
        refine rw_v (op_b (b := true) rfl (decide_eq_true (by omega))) ?_
        first | refine rw_end ?_ | (refine rw_nil ?_; show CW _ _ _ _ _ _) | refine rw_nil ?_
        repeat refine cw_seq ?_
        refine cw_true rfl ?_
        repeat refine cw_seq ?_
        refine cw_region ?_
        refine rw_v (op_pure rfl) ?_
        refine rw_v (op_fieldAddr Try.underlying92 rfl Try.sizeOf2 rfl rfl) ?_
        refine rw_r (op_loadB Try.underlying2 rfl rfl (S.blk (i := 0) rfl) rfl) ?_
        refine rw_v (op_slice_h Try.underlying29 Try.sizeOf5 rfl rfl (by omega) (by omega)) ?_
        refine rw_v (op_pure rfl) ?_
        first | refine rw_end ?_ | (refine rw_nil ?_; show CW _ _ _ _ _ _) | refine rw_nil ?_
        repeat refine cw_seq ?_
        refine cw_region ?_
        refine rw_v (op_pure rfl) ?_
        refine rw_v (op_rng rfl (by omega)) ?_
        refine rw_v (op_pure rfl) ?_
        first | refine rw_end ?_ | (refine rw_nil ?_; show CW _ _ _ _ _ _) | refine rw_nil ?_
        refine ⟨m - 1, by omega, k + 1, A, c, by omega, ⟨rfl, rfl, by rw [hne, List.length_take, Nat.min_eq_left hn]; rfl, ie (by omega), trivial⟩, ?_⟩
        have S1 := (S.drop 1).as_ (i := 0) (h' := .row 5 1 A n c (c8 ((seenL f k s).take n))) rfl rfl (fun h => by have := Row.take h hn; unfold c8 at *; rw [Nat.mul_one, ← List.map_take] at this; exact this) (fun g h => h)
        rw [hne, List.length_take, Nat.min_eq_left hn]
        exact S1
  · try simp only [decide_eq_true_eq, decide_eq_false_iff_not, beq_iff_eq, bne_iff_ne, beq_eq_false_iff_ne, bne_eq_false_iff_eq, Bool.not_eq_true', Bool.not_eq_false', ne_eq, Decidable.not_not, Int.natCast_inj, Int.ofNat_lt, Int.ofNat_le, gt_iff_lt, ge_iff_le, Int.not_lt, Int.not_le] at hc
    repeat refine cw_seq ?_
    refine cw_exit ?_
    repeat first | refine exit_then ?_ | refine exit_inb ?_
    show CW _ _ _ _ _ _
    repeat refine cw_seq ?_
    refine cw_region ?_
    refine rw_v (op_pure rfl) ?_
    refine rw_v (op_pure rfl) ?_
    first | refine rw_end ?_ | (refine rw_nil ?_; show CW _ _ _ _ _ _) | refine rw_nil ?_
    repeat refine cw_seq ?_
    refine cw_ret ?_
    repeat first | refine ret_then ?_ | refine ret_inb ?_
    have hk : k = s.waits.length := by omega
    subst hk
    have e1 : seenL f s.waits.length s = fileOf f (runs s.waits s.last) := by unfold seenL; rw [List.take_length]
    rw [e1] at S ⊢
    exact res1 rfl (S.retNew (i := 0) rfl)
end
