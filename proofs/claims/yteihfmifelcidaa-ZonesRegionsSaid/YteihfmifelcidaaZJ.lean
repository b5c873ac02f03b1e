/- slices.SortFunc at structs: what it leaves, over parts. -/
import Derived.Test.YteihfmifelcidaaZI
import Derived.Test.YteihfmifelcidaaZC
import Derived.Test.YteihfmifelcidaaZH
import Derived.Maps.Own
import Derived.Maps.RangeRun
import Derived.Laws.StructEq
import Derived.Test.YteihfmifelcidaaZB
import Derived.RangeFuncRecord
namespace Go.Proofs.Yteihfmifelcidaa
open Go.RowKit
set_option linter.unusedVariables false
set_option linter.unusedSimpArgs false
set_option maxRecDepth 100000

section
variable {w : World} {n blk t k : Nat} {os : Array Obj} {d : Array Value} {l : List Value}
theorem rowW_fr : Fr (fun g => g = blk) w (Sort.grow (Sort.putRow id (Sort.ahead w n) blk 0 d) os) := by
  refine ⟨rfl, rfl, rfl, ?_, fun g hg hn => ?_⟩
  · simp [Sort.grow, Sort.putRow, Sort.mapBlock, Sort.ahead]
  · simp only [Sort.grow, Sort.putRow, Sort.mapBlock, Sort.ahead]
    rw [Array.getElem?_append_left (by simpa using hg), Array.getElem?_modify, if_neg (fun e => hn e.symm)]
theorem rowW_blk (h : Blk w blk t l) (hd : d.size ≤ l.length) : Blk (Sort.grow (Sort.putRow id (Sort.ahead w n) blk 0 d) os) blk t (d.toList ++ l.drop d.size) := by
  have hlt : blk < w.heap.size := h.lt
  unfold Blk at *
  simp only [Sort.grow, Sort.putRow, Sort.mapBlock, Sort.ahead]
  rw [Array.getElem?_append_left (by simpa using hlt), Array.getElem?_modify, if_pos rfl, h]
  simp only [Option.map_some, Sort.onCells, Sort.putCells]
  congr 2
  apply Array.ext_getElem?
  intro j
  rw [Array.getElem?_mapIdx, List.getElem?_toArray, List.getElem?_toArray]
  by_cases hj : j < d.size
  · rw [List.getElem?_append_left (by simpa using hj), List.getElem?_eq_getElem (by omega), Option.map_some, if_pos (by omega), Nat.sub_zero, getElem!_pos d j hj]
    simp [hj]
  · rw [List.getElem?_append_right (by simp; omega), List.getElem?_drop, Array.length_toList, show d.size + (j - d.size) = j by omega]
    cases l[j]? with
    | none => rfl
    | some v => rw [Option.map_some, if_neg (by omega)]
end
section
variable {α : Type} {enc : α → List Value} {k : Nat}
theorem flat_len (hk : ∀ x, (enc x).length = k) (l : List α) : (l.flatMap enc).length = l.length * k := by
  induction l with
  | nil => simp
  | cons a l ih => rw [List.flatMap_cons, List.length_append, ih, hk, List.length_cons, Nat.succ_mul, Nat.add_comm]
theorem flat_get (hk : ∀ x, (enc x).length = k) : ∀ (l : List α) (j r : Nat) (hj : j < l.length) (hr : r < k), (l.flatMap enc)[j * k + r]? = some ((enc l[j])[r]'(by rw [hk]; exact hr))
  | [], _, _, hj, _ => by simp at hj
  | a :: l, 0, r, _, hr => by
    rw [List.flatMap_cons, List.getElem?_append_left (by rw [hk]; omega), Nat.zero_mul, Nat.zero_add, List.getElem?_eq_getElem (by rw [hk]; exact hr)]
    rfl
  | a :: l, j + 1, r, hj, hr => by
    rw [List.flatMap_cons, List.getElem?_append_right (by rw [hk, Nat.succ_mul]; omega), hk, show (j + 1) * k + r - k = j * k + r by rw [Nat.succ_mul]; omega]
    exact flat_get hk l j r (by simpa using hj) hr
theorem flatK_list [Inhabited α] (hk : ∀ x, (enc x).length = k) (l : List α) : (Sort.flatK enc k l.toArray).toList = l.flatMap enc := by
  refine List.ext_getElem? fun t => ?_
  by_cases ht : t < l.length * k
  · have k0 : 0 < k := by rcases Nat.eq_zero_or_pos k with h | h; · subst h; simp at ht
                          · exact h
    have hj : t / k < l.length := Nat.div_lt_of_lt_mul (by rwa [Nat.mul_comm])
    have hr := Nat.mod_lt t k0
    have h1 := flat_get hk l (t / k) (t % k) hj hr
    have h3 := Nat.div_add_mod t k
    rw [Nat.mul_comm, ] at h3
    rw [h3] at h1
    rw [h1, Array.getElem?_toList]
    have hsz : t < (Sort.flatK enc k l.toArray).size := by simpa using ht
    have h2 := Sort.get_flatK enc k l.toArray t (by simpa using ht)
    rw [getElem!_pos _ t hsz] at h2
    rw [Array.getElem?_eq_getElem hsz, h2, getElem!_pos l.toArray (t / k) (by simpa using hj)]
    rw [show l.toArray[t / k]'(by simpa using hj) = l[t / k] by simp]
    rw [getElem!_pos _ (t % k) (by rw [hk]; exact hr)]
  · rw [List.getElem?_eq_none (by simp; omega), List.getElem?_eq_none (by rw [flat_len hk]; omega)]
end
section
variable {P : Program} {F : Nat → Prop} {W w : World} {L : List HA} {i c t : Nat} {A : Option Addr}
variable {α : Type} [Inhabited α] {enc : α → List Value} {k : Nat} {l : List α} {cf : α → α → Int} {f g : FuncId}
/-- the shelf's contract, turned to parts -/
theorem sortK_parts (hcl : callableB P f = true) (hk : ∀ x, (enc x).length = k) (hk0 : 0 < k) (S : St F W w L) (hi : getO L i = some (.row t k A l.length c (l.flatMap enc))) (h1 : 1 ≤ l.length) (hs : ∀ h, ∃ L', setO L i h = some L')
    (hsort : ∀ (blk : Nat), blk < w.heap.size → Sort.HoldsK enc k w blk 0 l.toArray → Calls P f #[.slice (some ⟨blk, 0, none⟩) l.toArray.size c, .func (.func g) #[] #[]] w fun e w' =>
      e = .returned (.tuple #[]) ∧ ∃ d' n os, Sort.PermIn 0 l.toArray.size l.toArray d' ∧ Sort.SortedIn (ltOf cf) 0 l.toArray.size d' ∧ w' = sortWorldK enc k w blk 0 n d' os) :
    Fn P f [.slice A l.length c, .func (.func g) #[] #[]] w (fun v w' => v = .tuple #[] ∧ ∃ l' : List α, l'.Perm l ∧ l'.Pairwise (fun a b => ¬ cf b a < 0) ∧ ∃ L', setO L i (.row t k A l.length c (l'.flatMap enc)) = some L' ∧ St F W w' L') := by
  refine ⟨hcl, ?_⟩
  have hrow := S.row hi
  rcases hrow.form with ⟨_, h, _, _⟩ | ⟨b, cs, rfl, hB, hn, hcs, ht, hm⟩
  · omega
  have hlt : b < w.heap.size := hB.lt
  have hH : Sort.HoldsK enc k w b 0 l.toArray := fun j hj => by
    have hj' : j < l.length * k := by simpa using hj
    constructor
    · rcases hrow.rd with h | ⟨b', o', e, _, hc⟩
      · exfalso
        have := congrArg List.length h
        rw [flat_len hk, List.length_nil] at this
        omega
      · cases e
        refine hc j _ ?_
        rw [← flatK_list hk, Array.getElem?_toList, Array.getElem?_eq_getElem hj, getElem!_pos _ j hj]
        rfl
    · unfold Blk at hB
      simp [World.frozen?, hB]
  have := hsort b hlt hH
  rw [show #[Value.slice (some ⟨b, 0, none⟩) l.toArray.size c, .func (.func g) #[] #[]] = [Value.slice (some ⟨b, 0, none⟩) l.length c, .func (.func g) #[] #[]].toArray by simp] at this
  refine this.mono ?_
  rintro e w' ⟨rfl, d', n, os, ⟨hsz, _, hperm⟩, hsrt, rfl⟩
  have hsz' : d'.size = l.length := by simpa using hsz
  have hex : ∀ a : Array α, a.size = l.length → (a.extract 0 l.toArray.size).toList = a.toList := fun a ha => by
    rw [List.size_toArray, ← ha, Array.extract_size]
  rw [hex d' hsz', hex l.toArray (by simp)] at hperm
  obtain ⟨L', hL'⟩ := hs (.row t k (some ⟨b, 0, none⟩) l.length c (d'.toList.flatMap enc))
  refine ⟨_, rfl, rfl, d'.toList, hperm, ?_, L', hL', ?_⟩
  · rw [List.pairwise_iff_getElem]
    intro x y hx hy hxy
    have h2 := hsrt x y (Nat.zero_le _) hxy (by simpa [hsz'] using hy)
    rw [getElem!_pos d' y (by simpa using hy), getElem!_pos d' x (by simpa using hx)] at h2
    simpa [ltOf] using h2
  · have hfl := flatK_list hk d'.toList
    have hfl' : (Sort.flatK enc k d').toList = d'.toList.flatMap enc := by simpa using hfl
    have hln : (d'.toList.flatMap enc).length = l.length * k := by rw [flat_len hk]; simp [hsz']
    have hle : l.length * k ≤ cs.length := by rw [hcs]; exact Nat.mul_le_mul_right _ hn
    have hfs : (Sort.flatK enc k d').size = l.length * k := by simp [hsz']
    have hB2 := rowW_blk (n := n) (os := os) (d := Sort.flatK enc k d') hB (by omega)
    refine S.set hi hL' (F' := fun x => x = b) rowW_fr (fun x e => .inl (by subst e; rfl)) ?_ (fun x e => .inl e)
    rw [hfl', hfs] at hB2
    refine Row.mk_ hB2 hn ?_ ?_ hm
    · rw [List.length_append, hln, List.length_drop]; omega
    · rw [List.take_append_of_le_length (by omega), List.take_of_length_le (by omega)]
end

theorem swo_Z : Sort.SWO (ltOf cfZ) := by
  have h : ∀ a b : Zn, ltOf cfZ a b = decide (a.lb < b.lb) := fun a b => by
    unfold ltOf cfZ
    rw [Bool.eq_iff_iff, decide_eq_true_iff, decide_eq_true_iff, cmpI_lt]
  refine ⟨fun a => ?_, fun a b c => ?_, fun a b c => ?_⟩ <;> simp only [h, decide_eq_true_eq, decide_eq_false_iff_not] <;> omega
theorem cfP_lt {a b : Pr} : cfP a b < 0 ↔ ltPr a b := by
  unfold cfP cmpI ltPr
  split <;> (repeat' split) <;> omega
theorem swo_P : Sort.SWO (ltOf cfP) := by
  have h : ∀ a b : Pr, ltOf cfP a b = true ↔ ltPr a b := fun a b => by
    unfold ltOf
    rw [decide_eq_true_iff, cfP_lt]
  have h' : ∀ a b : Pr, ltOf cfP a b = false ↔ ¬ ltPr a b := fun a b => by rw [← h, Bool.not_eq_true]
  refine ⟨fun a => ?_, fun a b c => ?_, fun a b c => ?_⟩ <;> simp only [h, h', ltPr] <;> omega
section
variable {F : Nat → Prop} {W w : World} {L : List HA} {i c n : Nat} {A : Option Addr}
theorem ssortZ_E {gw : Nat} {l : List Zn} (S : St F W w L) (hi : getO L i = some (.row 59 7 A n c (l.flatMap (encZ gw)))) (hn : n = l.length) (hlt : l.length < 4611686018427387904) (hs : ∀ h, ∃ L', setO L i h = some L') :
    Fn Try.prog 56 [.slice A n c, .func (.func 57) #[] #[]] w (fun v w' => v = .tuple #[] ∧ ∃ l' : List Zn, l'.Perm l ∧ l'.Pairwise (fun a b => ¬ cfZ b a < 0) ∧ ∃ L', setO L i (.row 59 7 A n c (l'.flatMap (encZ gw))) = some L' ∧ St F W w' L') := by
  subst hn
  have hcl : callableB Try.prog 56 = true := by kernel_rfl
  by_cases h0 : l.length = 0
  · obtain rfl := List.length_eq_zero_iff.1 h0
    refine ⟨hcl, ?_⟩
    have := AnyF.slices_SortFunc_none sortZ A c (.func (.func 57) #[] #[]) w
    refine this.mono ?_
    rintro e w' ⟨rfl, rfl⟩
    obtain ⟨L', hL'⟩ := hs (.row 59 7 A 0 c [])
    exact ⟨_, rfl, rfl, [], .nil, .nil, L', hL', S.as_ hi hL' id (fun g h => h)⟩
  · refine sortK_parts hcl (fun _ => rfl) (by omega) S hi (by omega) hs fun blk hblk hH => ?_
    exact AnyQ.slices_SortFunc sortZ 7 (fun w => Try.isAgg59 w) (fun w => Try.sizeOf59 w) (encZ gw) (fun _ => rfl) (fun x v hv => by simp [encZ] at hv; rcases hv with h | h | h | h | h | h | h <;> subst h <;> rfl) cfZ swo_Z 57 #[] blk 0 c l.toArray w
      (fun args w => run_callFunc_E (by kernel_rfl) args w)
      (fun m os dk _ x y => (cmpZ_E gw x y).2.mono fun e w' ⟨v, he, hv, hg⟩ => ⟨by rw [he, hv], hg⟩) hH hblk (by simpa using hlt)
theorem ssortP_E {l : List Pr} (S : St F W w L) (hi : getO L i = some (.row 67 3 A n c (l.flatMap encPr))) (hn : n = l.length) (hlt : l.length < 4611686018427387904) (hs : ∀ h, ∃ L', setO L i h = some L') :
    Fn Try.prog 61 [.slice A n c, .func (.func 62) #[] #[]] w (fun v w' => v = .tuple #[] ∧ ∃ l' : List Pr, l'.Perm l ∧ l'.Pairwise (fun a b => ¬ cfP b a < 0) ∧ ∃ L', setO L i (.row 67 3 A n c (l'.flatMap encPr)) = some L' ∧ St F W w' L') := by
  subst hn
  have hcl : callableB Try.prog 61 = true := by kernel_rfl
  by_cases h0 : l.length = 0
  · obtain rfl := List.length_eq_zero_iff.1 h0
    refine ⟨hcl, ?_⟩
    have := AnyF.slices_SortFunc_none sortP A c (.func (.func 62) #[] #[]) w
    refine this.mono ?_
    rintro e w' ⟨rfl, rfl⟩
    obtain ⟨L', hL'⟩ := hs (.row 67 3 A 0 c [])
    exact ⟨_, rfl, rfl, [], .nil, .nil, L', hL', S.as_ hi hL' id (fun g h => h)⟩
  · refine sortK_parts hcl (fun _ => rfl) (by omega) S hi (by omega) hs fun blk hblk hH => ?_
    exact AnyQ.slices_SortFunc sortP 3 (fun w => Try.isAgg67 w) (fun w => Try.sizeOf67 w) encPr (fun _ => rfl) (fun x v hv => by simp [encPr] at hv; rcases hv with h | h | h <;> subst h <;> rfl) cfP swo_P 62 #[] blk 0 c l.toArray w
      (fun args w => run_callFunc_E (by kernel_rfl) args w)
      (fun m os dk _ x y => (cmpP_E x y).2.mono fun e w' ⟨v, he, hv, hg⟩ => ⟨by rw [he, hv], hg⟩) hH hblk (by simpa using hlt)
end
end Go.Proofs.Yteihfmifelcidaa
/- zones.Of: its contract. -/
namespace Go.Proofs.Yteihfmifelcidaa
open Go.RowKit
set_option linter.unusedVariables false
set_option linter.unusedSimpArgs false
set_option maxRecDepth 100000

theorem flat_set {α : Type} {enc : α → List Value} {k : Nat} (hk : ∀ x, (enc x).length = k) : ∀ (l : List α) (j r : Nat) (x : α) (v : Value), r < k → l[j]? = some x → (l.flatMap enc).set (j * k + r) v = (l.take j).flatMap enc ++ ((enc x).set r v ++ (l.drop (j + 1)).flatMap enc)
  | [], j, _, _, _, _, h => by simp at h
  | a :: l, 0, r, x, v, hr, h => by
    injection h with h
    subst h
    rw [List.flatMap_cons, Nat.zero_mul, Nat.zero_add, List.set_append_left _ _ (by rw [hk]; exact hr)]
    rfl
  | a :: l, j + 1, r, x, v, hr, h => by
    rw [List.getElem?_cons_succ] at h
    have ih := flat_set hk l j r x v hr h
    rw [List.flatMap_cons, List.set_append_right _ _ (by rw [hk, Nat.succ_mul]; omega), hk, show (j + 1) * k + r - k = j * k + r by rw [Nat.succ_mul]; omega, ih]
    simp [List.append_assoc]
theorem flat_at {α : Type} {enc : α → List Value} : ∀ (l : List α) (j : Nat) (x : α), l[j]? = some x → l.flatMap enc = (l.take j).flatMap enc ++ (enc x ++ (l.drop (j + 1)).flatMap enc)
  | [], j, _, h => by simp at h
  | a :: l, 0, x, h => by injection h with h; subst h; rfl
  | a :: l, j + 1, x, h => by
    rw [List.getElem?_cons_succ] at h
    rw [List.flatMap_cons, flat_at l j x h]
    simp [List.append_assoc]
/-- a field of an element is changed -/
theorem flat_fld {α : Type} {enc : α → List Value} {k : Nat} (hk : ∀ x, (enc x).length = k) (l : List α) (j r : Nat) (x y : α) (v : Value) (hr : r < k) (h : l[j]? = some x) (hy : (enc x).set r v = enc y) : (l.flatMap enc).set (j * k + r) v = (l.set j y).flatMap enc := by
  have hj := (List.getElem?_eq_some_iff.1 h).1
  rw [flat_set hk l j r x v hr h, hy, flat_at (l.set j y) j y (by simp [hj])]
  simp [List.take_set_of_le, List.drop_set_of_lt]

section
variable {gw j r : Nat} {l : List Zn} {x : Zn}
theorem fldZ (h : l[j]? = some x) (r : Nat) (hr : r < 7) : (l.flatMap (encZ gw))[(j : Int).toNat * 7 + r]? = (encZ gw x)[r]? := by
  obtain ⟨hj, he⟩ := List.getElem?_eq_some_iff.1 h
  rw [Int.toNat_natCast, flat_get (enc := encZ gw) (k := 7) (fun _ => rfl) l j r hj hr, he, List.getElem?_eq_getElem (show r < (encZ gw x).length from hr)]
theorem fldZ_lt (h : l[j]? = some x) (r : Nat) (hr : r < 7) : (j : Int).toNat * 7 + r < (l.flatMap (encZ gw)).length := by
  have hj := (List.getElem?_eq_some_iff.1 h).1
  rw [flat_len (k := 7) (fun _ => rfl), Int.toNat_natCast]
  omega
theorem fldZ_set (h : l[j]? = some x) (r : Nat) (hr : r < 7) {y : Zn} {v : Value} (hy : (encZ gw x).set r v = encZ gw y) : (l.flatMap (encZ gw)).set ((j : Int).toNat * 7 + r) v = (l.set j y).flatMap (encZ gw) := by
  rw [Int.toNat_natCast]
  exact flat_fld (k := 7) (fun _ => rfl) l j r x y v hr h hy
theorem set_get {α : Type} {l : List α} {j : Nat} {x y : α} (h : l[j]? = some x) : (l.set j y)[j]? = some y := by
  have hj := (List.getElem?_eq_some_iff.1 h).1
  simp [hj]
end
theorem St.row0 {F : Nat → Prop} {W w : World} {el k n c : Nat} {A : Option Addr} {xs ys : List Value} {L : List HA} (S : St F W w (.row el k A n c xs :: L)) (h : xs = ys) : St F W w (.row el k A n c ys :: L) := h ▸ S
def znUp (z : Zn) (v : Int) : Zn := ⟨z.lb, z.ar + 1, z.sm + v, min z.mn v, max z.mx v, z.fs⟩
/-- a label's number -/
def idxL : List Int → Int → Option Int
  | [], _ => none
  | a :: r, x => if a = x then some 0 else (idxL r x).map (· + 1)
theorem idxL_none {x : Int} : ∀ {l : List Int}, idxL l x = none ↔ x ∉ l
  | [] => by simp [idxL]
  | a :: r => by
    unfold idxL
    split
    · rename_i h; subst h; simp
    · rename_i h
      rw [Option.map_eq_none_iff, idxL_none, List.mem_cons]
      exact ⟨fun h1 h2 => h2.elim (fun e => h e.symm) h1, fun h1 h2 => h1 (.inr h2)⟩
theorem idxL_some {x i : Int} : ∀ {l : List Int}, idxL l x = some i → ∃ n : Nat, i = n ∧ l[n]? = some x
  | [], h => by cases h
  | a :: r, h => by
    unfold idxL at h
    split at h
    · rename_i e
      injection h with h
      exact ⟨0, by omega, by rw [e]; rfl⟩
    · cases hr : idxL r x with
      | none => rw [hr] at h; cases h
      | some y =>
        rw [hr] at h
        injection h with h
        obtain ⟨n, rfl, hn⟩ := idxL_some hr
        have h' : (n : Int) + 1 = i := h
        exact ⟨n + 1, by omega, by rw [List.getElem?_cons_succ]; exact hn⟩
theorem idxL_push {a : Int} : ∀ {l : List Int}, a ∉ l → updM (idxL l) a l.length = idxL (l ++ [a])
  | [], _ => by
    funext x
    unfold updM
    simp only [List.nil_append, idxL, List.length_nil]
    by_cases h : x = a
    · rw [if_pos h, if_pos h.symm]; rfl
    · rw [if_neg h, if_neg (fun e => h e.symm)]; rfl
  | b :: l, h => by
    have ih := idxL_push (l := l) (a := a) (fun e => h (List.mem_cons_of_mem _ e))
    funext x
    have ihx := congrFun ih x
    unfold updM at *
    simp only [List.cons_append, idxL]
    rw [← ihx]
    have hne : a ≠ b := fun e => h (by rw [e]; simp)
    by_cases hx : x = a
    · rw [if_pos hx, if_pos hx, if_neg (fun e => hne (by rw [← hx, e]))]
      simp
    · rw [if_neg hx, if_neg hx]
theorem up_new {V L : List Int} {k : Nat} (h : ¬ L.getD k 0 = 0) (h2 : L.getD k 0 ∉ labsN L k) :
    ((((labsN L k).map fun a => znN V L a k) ++ [(⟨L.getD k 0, 0, 0, V.getD k 0, V.getD k 0, k⟩ : Zn)]).set (labsN L k).length (znUp ⟨L.getD k 0, 0, 0, V.getD k 0, V.getD k 0, k⟩ (V.getD k 0))) = (labsN L (k + 1)).map fun a => znN V L a (k + 1) := by
  rw [labsN_step_new h h2, List.map_append, List.set_append_right _ _ (by simp)]
  congr 1
  · exact List.map_congr_left fun a ha => (znN_ne (fun e => h2 (by rw [e]; exact ha))).symm
  · rw [List.map_cons, List.map_nil, znN_new h h2, List.length_map, Nat.sub_self]
    have : znUp ⟨L.getD k 0, 0, 0, V.getD k 0, V.getD k 0, k⟩ (V.getD k 0) = ⟨L.getD k 0, 1, V.getD k 0, V.getD k 0, V.getD k 0, k⟩ := by unfold znUp; simp
    rw [this]; rfl
theorem up_old {V L : List Int} {k j : Nat} (h : L.getD k 0 ≠ 0) (hj : (labsN L k)[j]? = some (L.getD k 0)) :
    ((labsN L k).map fun a => znN V L a k).set j (znUp (znN V L (L.getD k 0) k) (V.getD k 0)) = (labsN L (k + 1)).map fun a => znN V L a (k + 1) := by
  have hm := List.mem_of_getElem? hj
  rw [labsN_step_old (.inr hm)]
  apply List.ext_getElem?
  intro i
  rw [List.getElem?_set, List.length_map, List.getElem?_map, List.getElem?_map]
  have hjl := (List.getElem?_eq_some_iff.1 hj).1
  by_cases e : j = i
  · subst e
    rw [if_pos rfl, if_pos hjl, hj, Option.map_some, znN_old hm]
    rfl
  · rw [if_neg e]
    cases hi : (labsN L k)[i]? with
    | none => rfl
    | some a =>
      have hne : L.getD k 0 ≠ a := fun e2 => by
        obtain ⟨hil, hie⟩ := List.getElem?_eq_some_iff.1 hi
        obtain ⟨_, hje⟩ := List.getElem?_eq_some_iff.1 hj
        rcases Nat.lt_trichotomy j i with h1 | h1 | h1
        · exact List.pairwise_iff_getElem.1 (labsN_nodup (L := L) k) j i hjl hil h1 (hje.trans (e2.trans hie.symm))
        · exact e h1
        · exact List.pairwise_iff_getElem.1 (labsN_nodup (L := L) k) i j hil hjl h1 (hie.trans (e2.symm.trans hje.symm))
      rw [Option.map_some, Option.map_some, znN_ne hne]
/-- a load of what a store turns, then the store -/
def CMM (F : Nat → Prop) (W : World) (L L1 : List HA) (x : Value) (σ : List Value) (w : World) : Prop := match σ with
  | [] => St F W w L
  | [v] => v = x ∧ St F W w L
  | _ => St F W w L1
section
variable {P : Program} {e : Nat → Value} {d : Option Tmp} {ty : TypeId} {ps : String} {af : Array Edge} {F : Nat → Prop} {W w : World} {L L1 : List HA} {u : Value} {σ : List Value}
theorem CMM.ld {t : TypeId} {x : Operand} {i m el k n c : Nat} {dd : TypeDesc} {v : Value} {A : Option Addr} {xs ys : List Value} (h : CMM F W L L1 u σ w) (hi : getO L i = some (.row el k A n c xs)) (hi1 : getO L1 i = some (.row el k A n c ys)) (hu : P.underlying t = some dd) (hd : aggD dd = false) (hx : ev e x = .pointer (at_ A m)) (hv : xs[m]? = some v) (hv1 : ys[m]? = some v) : OpR P e ⟨d, .load t x, ty, ps, af, none⟩ w v := by
  match σ, h with
  | [], h => exact op_ldR hu hd hx (St.rd h hi) hv
  | [_], h => exact op_ldR hu hd hx (St.rd h.2 hi) hv
  | _ :: _ :: _, h => exact op_ldR hu hd hx (St.rd h hi1) hv1
theorem to_ldR {t : TypeId} {x : Operand} {m : Nat} {dd : TypeDesc} {v : Value} {A : Option Addr} {xs : List Value} {R : Value → World → Prop} (hu : P.underlying t = some dd) (hd : aggD dd = false) (hx : ev e x = .pointer (at_ A m)) (hR : Rd w A xs) (hv : xs[m]? = some v) (hr : R v w) : opTo P e ⟨d, .load t x, ty, ps, af, none⟩ w R :=
  to_w (op_ldR (P := P) (d := d) (ty := ty) (ps := ps) (af := af) hu hd hx hR hv) hr
end
section
variable {W : World} {A B : Option Addr} {p gw gh cap cb : Nat} {cc : Nat → Int} {bs : Nat → Nat} {Rs : Nat → Option Nat} {L : List Int}
theorem zofNil_E {n : Nat} : Fn Try.prog 22 [.pointer none, .slice B n cb] W (RetG (.tuple #[.slice none 0 0, .int .i64 1]) W) := by
  have S := St.start W
  refine Fn_enter Try.func22 rfl Try.results22 Try.ntmps22 (by kernel_rfl) (by kernel_rfl) ?_
  repeat refine cw_seq ?_
  refine cw_region ?_
  iterate 2 refine rw_v (op_pure rfl) ?_
  first | refine rw_end ?_ | (refine rw_nil ?_; show CW _ _ _ _ _ _) | refine rw_nil ?_
  repeat refine cw_seq ?_
  refine cw_region ?_
  iterate 2 refine rw_v (op_pure rfl) ?_
  refine rw_call rfl (zvalsNil_E) ?_
  rintro _ w1_ ⟨rfl, g1_⟩
  have S := S.gr g1_
  iterate 7 refine rw_v (op_pure rfl) ?_
  first | refine rw_end ?_ | (refine rw_nil ?_; show CW _ _ _ _ _ _) | refine rw_nil ?_
  repeat refine cw_seq ?_
  refine cw_region ?_
  refine rw_v (op_pure rfl) ?_
  refine rw_v (op_b (b := true) rfl (bne_iff_ne.2 (by omega))) ?_
  first | refine rw_end ?_ | (refine rw_nil ?_; show CW _ _ _ _ _ _) | refine rw_nil ?_
  repeat refine cw_seq ?_
  refine cw_true rfl ?_
  repeat refine cw_seq ?_
  refine cw_region ?_
  iterate 3 refine rw_v (op_pure rfl) ?_
  first | refine rw_end ?_ | (refine rw_nil ?_; show CW _ _ _ _ _ _) | refine rw_nil ?_
  repeat refine cw_seq ?_
  refine cw_ret ?_
  repeat first | refine ret_then ?_ | refine ret_inb ?_
  exact res2 rfl rfl ⟨rfl, S.out⟩
theorem zofNo_E {n : Nat} (hn : n ≠ gw * gh) (hG : GridAt W p gw gh cc A cap bs Rs) : Fn Try.prog 22 [.pointer (some ⟨p, 0, none⟩), .slice B n cb] W (RetG (.tuple #[.slice none 0 0, .int .i64 6]) W) := by
  have S := St.start W
  refine Fn_enter Try.func22 rfl Try.results22 Try.ntmps22 (by kernel_rfl) (by kernel_rfl) ?_
  repeat refine cw_seq ?_
  refine cw_region ?_
  iterate 2 refine rw_v (op_pure rfl) ?_
  first | refine rw_end ?_ | (refine rw_nil ?_; show CW _ _ _ _ _ _) | refine rw_nil ?_
  repeat refine cw_seq ?_
  refine cw_region ?_
  iterate 2 refine rw_v (op_pure rfl) ?_
  refine rw_call rfl (zvalsNo_E hn (hG.gr S.out)) ?_
  rintro _ w1_ ⟨rfl, g1_⟩
  have S := S.gr g1_
  iterate 7 refine rw_v (op_pure rfl) ?_
  first | refine rw_end ?_ | (refine rw_nil ?_; show CW _ _ _ _ _ _) | refine rw_nil ?_
  repeat refine cw_seq ?_
  refine cw_region ?_
  refine rw_v (op_pure rfl) ?_
  refine rw_v (op_b (b := true) rfl (bne_iff_ne.2 (by omega))) ?_
  first | refine rw_end ?_ | (refine rw_nil ?_; show CW _ _ _ _ _ _) | refine rw_nil ?_
  repeat refine cw_seq ?_
  refine cw_true rfl ?_
  repeat refine cw_seq ?_
  refine cw_region ?_
  iterate 3 refine rw_v (op_pure rfl) ?_
  first | refine rw_end ?_ | (refine rw_nil ?_; show CW _ _ _ _ _ _) | refine rw_nil ?_
  repeat refine cw_seq ?_
  refine cw_ret ?_
  repeat first | refine ret_then ?_ | refine ret_inb ?_
  exact res2 rfl rfl ⟨rfl, S.out⟩
set_option maxHeartbeats 4000000 in
theorem zof_E (hb : ∀ j, -2147483648 ≤ (gridL gw gh cc).getD j 0 ∧ (gridL gw gh cc).getD j 0 ≤ 2147483647) (hL : L.length = gw * gh) (hB : Rd W B (ints L)) (hG : GridAt W p gw gh cc A cap bs Rs) :
    Fn Try.prog 22 [.pointer (some ⟨p, 0, none⟩), .slice B (gw * gh) cb] W (RetNew (fun v => .tuple #[v, .int .i64 0]) 59 7 (refLab L (gw * gh)).length (((refLab L (gw * gh)).map fun a => znN (gridL gw gh cc) L a (gw * gh)).flatMap (encZ gw)) W) := by
  have hw := hG.sw
  have hh := hG.sh
  have hm : gw * gh ≤ 1024 * 1024 := Nat.mul_le_mul hw.2 hh.2
  have hV := gridL_len gw gh cc
  have hpos : 1 ≤ gw * gh := Nat.mul_le_mul hw.1 hh.1
  have sa_B : SomeA B := hB.someA (by rw [ints_len]; omega)
  have S := St.start W
  refine Fn_enter Try.func22 rfl Try.results22 Try.ntmps22 (by kernel_rfl) (by kernel_rfl) ?_
  repeat refine cw_seq ?_
  refine cw_region ?_
  iterate 2 refine rw_v (op_pure rfl) ?_
  first | refine rw_end ?_ | (refine rw_nil ?_; show CW _ _ _ _ _ _) | refine rw_nil ?_
  repeat refine cw_seq ?_
  refine cw_region ?_
  iterate 2 refine rw_v (op_pure rfl) ?_
  refine rw_call rfl (zvals_E (hG.gr S.out)) ?_
  rintro _ w1_ ⟨A_vs, c_vs, rfl, hR_vs, hf_vs, g1_⟩
  have S := S.pushRow hR_vs hf_vs g1_
  iterate 7 refine rw_v (op_pure rfl) ?_
  first | refine rw_end ?_ | (refine rw_nil ?_; show CW _ _ _ _ _ _) | refine rw_nil ?_
  repeat refine cw_seq ?_
  refine cw_region ?_
  refine rw_v (op_pure rfl) ?_
  refine rw_v (op_b (b := false) rfl (bne_eq_false_iff_eq.2 (by omega))) ?_
  first | refine rw_end ?_ | (refine rw_nil ?_; show CW _ _ _ _ _ _) | refine rw_nil ?_
  repeat refine cw_seq ?_
  refine cw_false rfl ?_
  repeat refine cw_seq ?_
  refine cw_skip ?_
  try show CW _ _ _ _ _ _
  repeat refine cw_seq ?_
  refine cw_region ?_
  refine rw_makeMap S ?_
  intro b_mp w3_ g3_ S
  refine rw_v (op_pure rfl) ?_
  first | refine rw_end ?_ | (refine rw_nil ?_; show CW _ _ _ _ _ _) | refine rw_nil ?_
  repeat refine cw_seq ?_
  refine cw_region ?_
  refine rw_v (op_pure rfl) ?_
  first | refine rw_end ?_ | (refine rw_nil ?_; show CW _ _ _ _ _ _) | refine rw_nil ?_
  repeat refine cw_seq ?_
  refine cw_region ?_
  refine rw_v (op_pure rfl) ?_
  refine rw_v (op_len Try.underlying22 rfl) ?_
  refine rw_v (op_pure rfl) ?_
  first | refine rw_end ?_ | (refine rw_nil ?_; show CW _ _ _ _ _ _) | refine rw_nil ?_
  repeat refine cw_seq ?_
  refine cw_block ?_
  repeat refine cw_seq ?_
  generalize gridL gw gh cc = V at *
  have S := S.pushNil 59 7
  refine cw_loop (fun m e w => ∃ (k : Nat) (A2 : Option Addr) (c2 : Nat), k + m = gw * gh ∧ SL e [(1, .slice B (gw * gh) cb), (7, .int .i64 gw), (9, .map (some b_mp)), (10, .slice A2 (labsN L k).length c2), (28, .slice A_vs (gw * gh) c_vs), (29, .int .i64 (gw * gh : Nat)), (30, .int .i64 k)] ∧
    St No W w [.row 59 7 A2 (labsN L k).length c2 (((labsN L k).map fun a => znN V L a k).flatMap (encZ gw)), .map b_mp (idxL (labsN L k)), .row 2 1 A_vs (gw * gh) c_vs (ints V)]) (gw * gh)
    ⟨0, none, 0, by omega, ⟨rfl, rfl, rfl, rfl, rfl, rfl, rfl, trivial⟩, S⟩ ?_
  clear S
  rintro m e w ⟨k, A2, c2, hk, hsl, S⟩
  rw [hsl.fold]
  repeat refine cw_seq ?_
  refine cw_region ?_
  refine rw_v (op_pure rfl) ?_
  first | refine rw_end ?_ | (refine rw_nil ?_; show CW _ _ _ _ _ _) | refine rw_nil ?_
  repeat refine cw_seq ?_
  refine cw_cond rfl (fun hc => ?_) (fun hc => ?_)
  · try simp only [decide_eq_true_eq, decide_eq_false_iff_not, beq_iff_eq, bne_iff_ne, beq_eq_false_iff_ne, bne_eq_false_iff_eq, Bool.not_eq_true', Bool.not_eq_false', ne_eq, Decidable.not_not, Int.natCast_inj, Int.ofNat_lt, Int.ofNat_le, gt_iff_lt, ge_iff_le, Int.not_lt, Int.not_le] at hc
    have hkn : k < gw * gh := by omega
    have hlk : (ints L)[(k : Int).toNat * 1]? = some (.int .i64 (L.getD k 0)) := by rw [Nat.mul_one, Int.toNat_natCast]; exact ints_get (getD_at (by omega))
    have hvk : (ints V)[(k : Int).toNat * 1]? = some (.int .i64 (V.getD k 0)) := by rw [Nat.mul_one, Int.toNat_natCast]; exact ints_get (getD_at (by omega))
    have hbk := hb k
    have sa_vs : SomeA A_vs := (S.row (i := 2) rfl).someA (by omega)
    have hll := labsN_len (L := L) k
    by_cases h0 : L.getD k 0 = 0
    · have e1 := labsN_step_old (L := L) (i := k) (.inl h0)
      have e2 : ((labsN L k).map fun a => znN V L a k) = (labsN L k).map fun a => znN V L a (k + 1) := List.map_congr_left fun a ha => (znN_ne (fun e => (mem_labsN.1 ha).1 (by rw [← e, h0]))).symm
      repeat refine cw_seq ?_
      refine cw_skip ?_
      try show CW _ _ _ _ _ _
      repeat refine cw_seq ?_
      refine cw_block ?_
      repeat refine cw_seq ?_
      refine cw_region ?_
      refine rw_v (op_pure rfl) ?_
      refine rw_v (op_idx Try.underlying22 Try.sizeOf2 rfl rfl sa_vs (by omega) (by omega)) ?_
      refine rw_r (op_ldR Try.underlying2 rfl rfl (S.rd (i := 2) rfl) hvk) ?_
      iterate 2 refine rw_v (op_pure rfl) ?_
      first | refine rw_end ?_ | (refine rw_nil ?_; show CW _ _ _ _ _ _) | refine rw_nil ?_
      repeat refine cw_seq ?_
      refine cw_region ?_
      iterate 2 refine rw_v (op_pure rfl) ?_
      refine rw_v (op_idx Try.underlying22 Try.sizeOf2 rfl rfl sa_B (by omega) (by omega)) ?_
      refine rw_r (op_ldR Try.underlying2 rfl rfl (hB.gr S.out) hlk) ?_
      refine rw_v (op_pure rfl) ?_
      first | refine rw_end ?_ | (refine rw_nil ?_; show CW _ _ _ _ _ _) | refine rw_nil ?_
      repeat refine cw_seq ?_
      refine cw_region ?_
      refine rw_v (op_pure rfl) ?_
      refine rw_v (op_b (b := true) rfl (beq_iff_eq.2 (by omega))) ?_
      first | refine rw_end ?_ | (refine rw_nil ?_; show CW _ _ _ _ _ _) | refine rw_nil ?_
      repeat refine cw_seq ?_
      refine cw_true rfl ?_
      repeat refine cw_seq ?_
      refine cw_exit ?_
      repeat first | refine exit_then ?_ | refine exit_inb ?_
      show CW _ _ _ _ _ _
      repeat refine cw_seq ?_
      refine cw_region ?_
      refine rw_v (op_rng rfl (by omega)) ?_
      refine rw_v (op_pure rfl) ?_
      first | refine rw_end ?_ | (refine rw_nil ?_; show CW _ _ _ _ _ _) | refine rw_nil ?_
      exact ⟨m - 1, by omega, k + 1, A2, c2, by omega, ⟨rfl, rfl, rfl, by rw [e1]; rfl, rfl, rfl, ie (by omega), trivial⟩, by rw [e1, ← e2]; exact S⟩
    · have hznb := znN_bnd (L := L) (k := L.getD k 0) hb k
      have hnew := fun h2 => up_new (V := V) (L := L) (k := k) h0 h2
      have hold := fun j hj => up_old (V := V) (L := L) (k := k) (j := j) h0 hj
      have hpush := fun h2 : L.getD k 0 ∉ labsN L k => idxL_push h2
      have hsn := fun h2 => labsN_step_new (L := L) (i := k) h0 h2
      have hso := fun h2 => labsN_step_old (L := L) (i := k) (.inr h2)
      generalize hlb : L.getD k 0 = lb at *
      generalize hvv : V.getD k 0 = v at *
      repeat refine cw_seq ?_
      refine cw_skip ?_
      try show CW _ _ _ _ _ _
      repeat refine cw_seq ?_
      refine cw_block ?_
      repeat refine cw_seq ?_
      refine cw_region ?_
      refine rw_v (op_pure rfl) ?_
      refine rw_v (op_idx Try.underlying22 Try.sizeOf2 rfl rfl sa_vs (by omega) (by omega)) ?_
      refine rw_r (op_ldR Try.underlying2 rfl rfl (S.rd (i := 2) rfl) hvk) ?_
      iterate 2 refine rw_v (op_pure rfl) ?_
      first | refine rw_end ?_ | (refine rw_nil ?_; show CW _ _ _ _ _ _) | refine rw_nil ?_
      repeat refine cw_seq ?_
      refine cw_region ?_
      iterate 2 refine rw_v (op_pure rfl) ?_
      refine rw_v (op_idx Try.underlying22 Try.sizeOf2 rfl rfl sa_B (by omega) (by omega)) ?_
      refine rw_r (op_ldR Try.underlying2 rfl rfl (hB.gr S.out) hlk) ?_
      refine rw_v (op_pure rfl) ?_
      first | refine rw_end ?_ | (refine rw_nil ?_; show CW _ _ _ _ _ _) | refine rw_nil ?_
      repeat refine cw_seq ?_
      refine cw_region ?_
      refine rw_v (op_pure rfl) ?_
      refine rw_v (op_b (b := false) rfl (beq_eq_false_iff_ne.2 (by omega))) ?_
      first | refine rw_end ?_ | (refine rw_nil ?_; show CW _ _ _ _ _ _) | refine rw_nil ?_
      repeat refine cw_seq ?_
      refine cw_false rfl ?_
      repeat refine cw_seq ?_
      refine cw_skip ?_
      try show CW _ _ _ _ _ _
      repeat refine cw_seq ?_
      refine cw_region ?_
      iterate 2 refine rw_v (op_pure rfl) ?_
      refine rw_r (op_lookOk Try.underlying121 Try.underlying2 (Try.zeroValue3 _) rfl rfl (S.map (i := 1) rfl)) ?_
      iterate 5 refine rw_v (op_pure rfl) ?_
      first | refine rw_end ?_ | (refine rw_nil ?_; show CW _ _ _ _ _ _) | refine rw_nil ?_
      repeat refine cw_seq ?_
      refine cw_region ?_
      iterate 2 refine rw_v (op_pure rfl) ?_
      first | refine rw_end ?_ | (refine rw_nil ?_; show CW _ _ _ _ _ _) | refine rw_nil ?_
      repeat refine cw_seq ?_
      refine cw_cutT (M := fun e w => ∃ (l0 : List Zn) (j : Nat) (z : Zn) (A3 : Option Addr) (c3 : Nat), SL e [(1, .slice B (gw * gh) cb), (7, .int .i64 gw), (9, .map (some b_mp)), (10, .slice A3 l0.length c3), (12, .int .i64 v), (14, .int .i64 j), (28, .slice A_vs (gw * gh) c_vs), (29, .int .i64 (gw * gh : Nat)), (30, .int .i64 k)] ∧ l0[j]? = some z ∧ l0.set j (znUp z v) = ((labsN L (k + 1)).map fun a => znN V L a (k + 1)) ∧ (0 ≤ z.ar ∧ z.ar ≤ k ∧ -2147483648 * (k : Int) ≤ z.sm ∧ z.sm ≤ 2147483648 * (k : Int)) ∧ St No W w [.row 59 7 A3 l0.length c3 (l0.flatMap (encZ gw)), .map b_mp (idxL (labsN L (k + 1))), .row 2 1 A_vs (gw * gh) c_vs (ints V)]) ?_ ?_
      · cases hix : idxL (labsN L k) lb with
        | none =>
          have hn := idxL_none.1 hix
          have hu := hnew hn
          have hp := hpush hn
          have hs := hsn hn
          have em : (k : Int) % gw = ((k % gw : Nat) : Int) := by push_cast; rfl
          have ed : (k : Int) / gw = ((k / gw : Nat) : Int) := by push_cast; rfl
          have hlen : (((labsN L k).map fun a => znN V L a k) ++ [(⟨lb, 0, 0, v, v, k⟩ : Zn)]).length = (labsN L k).length + 1 := by simp
          repeat refine cw_seq ?_
          refine cw_true rfl ?_
          repeat refine cw_seq ?_
          refine cw_region ?_
          refine rw_v (op_pure rfl) ?_
          refine rw_v (op_len Try.underlying52 rfl) ?_
          refine rw_v (op_pure rfl) ?_
          first | refine rw_end ?_ | (refine rw_nil ?_; show CW _ _ _ _ _ _) | refine rw_nil ?_
          repeat refine cw_seq ?_
          refine cw_region ?_
          iterate 3 refine rw_v (op_pure rfl) ?_
          refine rw_mapUpd (i := 1) S rfl Try.underlying121 Try.underlying2 rfl rfl rfl rfl ?_
          intro w4_ S
          first | refine rw_end ?_ | (refine rw_nil ?_; show CW _ _ _ _ _ _) | refine rw_nil ?_
          rw [hp, ← hs] at S
          repeat refine cw_seq ?_
          refine cw_tri (C := (fun σ wq => CS No W [.row 59 7 A2 (labsN L k).length c2 (((labsN L k).map fun a => znN V L a k).flatMap (encZ gw)), .map b_mp (idxL (labsN L (k + 1))), .row 2 1 A_vs (gw * gh) c_vs (ints V)] 0 59 7 (labsN L k).length (((labsN L k).map fun a => znN V L a k).flatMap (encZ gw)) (encZ gw ⟨lb, 0, 0, v, v, k⟩) wq σ)) [12, 13] [0, 1, 2, 3, 4, 5, 6, 7, 8, 9, 10, 11, 12, 13] [14] (by kernel_rfl) (by kernel_rfl) (S.gr (Gr.drew _)) ?_
          simp only [pickI, pickL, List.drop_succ_cons, List.drop_zero]
          refine rs_v rfl (op_pure rfl) ?_
          refine rs_v rfl (op_pure rfl) ?_
          refine rs_v rfl (op_pure rfl) ?_
          refine rs_v rfl (op_pure rfl) ?_
          refine rs_v rfl (op_pure rfl) ?_
          refine rs_v rfl (op_pure rfl) ?_
          refine rs_v rfl (op_rem rfl rfl (by omega) (by omega)) ?_
          rw [em]
          refine rs_v rfl (op_pure rfl) ?_
          refine rs_v rfl (op_pure rfl) ?_
          refine rs_v rfl (op_div rfl rfl (by omega) (by omega)) ?_
          rw [ed]
          refine rs_v rfl (op_build (pl := [(0, 1), (1, 1)]) Try.underlying39 Try.zeroValue39 (fun w => by kernel_rfl) rfl rfl) ?_
          refine rs_v rfl (op_build (pl := [(0, 1), (1, 1), (2, 1), (3, 1), (4, 1), (5, 2)]) Try.underlying59 Try.zeroValue59 (fun w => by kernel_rfl) rfl rfl) ?_
          refine rs_special rfl rfl (fun wq hq => to_buildCS hq Try.underlying52 Try.sizeOf59 Try.zeroValue59 rfl rfl rfl rfl rfl rfl) ?_
          rintro v6 w6 ⟨A6, rfl, _⟩
          refine rs_special rfl rfl (fun wq hq => to_appCS hq rfl (fun h => ⟨_, rfl⟩) Try.underlying52 info_t59 rfl rfl rfl rfl rfl rfl (by omega)) ?_
          rintro v7 w7 ⟨A7, c7, L7, rfl, _, _⟩
          refine rs_nil ?_
          rintro w8 ⟨A8_, c8_, L_st, e_st, h_st, S⟩
          cases e_st
          obtain rfl := Option.some.inj h_st
          refine rw_v (op_pure rfl) ?_
          first | refine rw_end ?_ | (refine rw_nil ?_; show CW _ _ _ _ _ _) | refine rw_nil ?_
          have e2 : (((labsN L k).map fun a => znN V L a k).flatMap (encZ gw)) ++ encZ gw ⟨lb, 0, 0, v, v, k⟩ = (((labsN L k).map fun a => znN V L a k) ++ [(⟨lb, 0, 0, v, v, k⟩ : Zn)]).flatMap (encZ gw) := by rw [List.flatMap_append]; simp
          rw [e2] at S
          refine ⟨_, (labsN L k).length, ⟨lb, 0, 0, v, v, k⟩, A7, c7, ⟨rfl, rfl, rfl, by rw [hlen]; rfl, rfl, rfl, rfl, rfl, rfl, trivial⟩, by simp, hu, by dsimp only; omega, by rw [hlen]; exact S⟩
        | some y =>
          obtain ⟨j, rfl, hj⟩ := idxL_some hix
          have hlm : (labsN L k).map (fun a => znN V L a k) = (labsN L k).map fun a => znN V L a k := rfl
          have hs := hso (List.mem_of_getElem? hj)
          repeat refine cw_seq ?_
          refine cw_false rfl ?_
          repeat refine cw_seq ?_
          refine cw_skip ?_
          try show CW _ _ _ _ _ _
          refine ⟨(labsN L k).map fun a => znN V L a k, j, znN V L lb k, A2, c2, ⟨rfl, rfl, rfl, by rw [List.length_map]; rfl, rfl, rfl, rfl, rfl, rfl, trivial⟩, by rw [List.getElem?_map, hj]; rfl, hold j hj, hznb, by rw [List.length_map, hs]; exact S⟩
      · clear S hnew hold hpush hsn hso hznb
        rintro e w ⟨l0, j, z, A3, c3, hsl, hz, hset, hzb, S⟩
        rw [hsl.fold]
        have hjl := (List.getElem?_eq_some_iff.1 hz).1
        have sa_out : SomeA A3 := (S.row (i := 0) rfl).someA (by omega)
        have hzl : l0.length = (labsN L (k + 1)).length := by have := congrArg List.length hset; simpa using this
        repeat refine cw_seq ?_
        refine cw_region ?_
        iterate 2 refine rw_v (op_pure rfl) ?_
        refine rw_v (op_idx Try.underlying52 Try.sizeOf59 rfl rfl sa_out (by omega) (by omega)) ?_
        refine rw_v (op_pure rfl) ?_
        first | refine rw_end ?_ | (refine rw_nil ?_; show CW _ _ _ _ _ _) | refine rw_nil ?_
        repeat refine cw_seq ?_
        refine cw_region ?_
        refine rw_v (op_pure rfl) ?_
        refine rw_v (op_ncA rfl sa_out) ?_
        refine rw_v (op_fld Try.underlying59 rfl Try.sizeOf2 rfl rfl sa_out) ?_
        refine rw_r (op_ldR Try.underlying2 rfl rfl (S.rd (i := 0) rfl) (fldZ hz 1 (by omega))) ?_
        refine rw_v (op_rng rfl (by omega)) ?_
        refine rw_v (op_ncA rfl sa_out) ?_
        refine rw_v (op_fld Try.underlying59 rfl Try.sizeOf2 rfl rfl sa_out) ?_
        refine rw_storeR (i := 0) S rfl (Try.sizeOf2 _) rfl rfl rfl rfl (fldZ_lt hz 1 (by omega)) rfl ?_
        intro w6_ S
        first | refine rw_end ?_ | (refine rw_nil ?_; show CW _ _ _ _ _ _) | refine rw_nil ?_
        have S := S.row0 (fldZ_set hz 1 (by omega) (y := ⟨z.lb, z.ar + 1, z.sm, z.mn, z.mx, z.fs⟩) rfl)
        have hz1 : (l0.set j ⟨z.lb, z.ar + 1, z.sm, z.mn, z.mx, z.fs⟩)[j]? = some ⟨z.lb, z.ar + 1, z.sm, z.mn, z.mx, z.fs⟩ := set_get hz
        repeat refine cw_seq ?_
        refine cw_region ?_
        refine rw_v (op_pure rfl) ?_
        refine rw_v (op_ncA rfl sa_out) ?_
        refine rw_v (op_fld Try.underlying59 rfl Try.sizeOf2 rfl rfl sa_out) ?_
        refine rw_r (op_ldR Try.underlying2 rfl rfl (S.rd (i := 0) rfl) (fldZ hz1 2 (by omega))) ?_
        refine rw_v (op_pure rfl) ?_
        refine rw_v (op_rng rfl (by dsimp only; omega)) ?_
        refine rw_v (op_ncA rfl sa_out) ?_
        refine rw_v (op_fld Try.underlying59 rfl Try.sizeOf2 rfl rfl sa_out) ?_
        refine rw_storeR (i := 0) S rfl (Try.sizeOf2 _) rfl rfl rfl rfl (fldZ_lt hz1 2 (by omega)) rfl ?_
        intro w7_ S
        first | refine rw_end ?_ | (refine rw_nil ?_; show CW _ _ _ _ _ _) | refine rw_nil ?_
        have S := S.row0 ((fldZ_set hz1 2 (by omega) (y := ⟨z.lb, z.ar + 1, z.sm + v, z.mn, z.mx, z.fs⟩) rfl).trans (by rw [List.set_set]))
        have hz2 : (l0.set j ⟨z.lb, z.ar + 1, z.sm + v, z.mn, z.mx, z.fs⟩)[j]? = some ⟨z.lb, z.ar + 1, z.sm + v, z.mn, z.mx, z.fs⟩ := set_get hz
        have e3 := fldZ_set (gw := gw) hz2 3 (by omega) (y := ⟨z.lb, z.ar + 1, z.sm + v, min z.mn v, z.mx, z.fs⟩) (v := .int .i64 (min z.mn v)) rfl
        rw [List.set_set] at e3
        have hz3 : (l0.set j ⟨z.lb, z.ar + 1, z.sm + v, min z.mn v, z.mx, z.fs⟩)[j]? = some ⟨z.lb, z.ar + 1, z.sm + v, min z.mn v, z.mx, z.fs⟩ := set_get hz
        repeat refine cw_seq ?_
        refine cw_tri (C := (CMM No W [.row 59 7 A3 l0.length c3 ((l0.set j ⟨z.lb, z.ar + 1, z.sm + v, z.mn, z.mx, z.fs⟩).flatMap (encZ gw)), .map b_mp (idxL (labsN L (k + 1))), .row 2 1 A_vs (gw * gh) c_vs (ints V)] [.row 59 7 A3 l0.length c3 ((l0.set j ⟨z.lb, z.ar + 1, z.sm + v, min z.mn v, z.mx, z.fs⟩).flatMap (encZ gw)), .map b_mp (idxL (labsN L (k + 1))), .row 2 1 A_vs (gw * gh) c_vs (ints V)] (.int .i64 z.mn))) [5, 16] [0, 1, 2, 3, 4, 6, 8, 9, 10, 11, 12, 13, 5, 7, 14, 15, 16] [17, 18, 19] (by kernel_rfl) (by kernel_rfl) (S.gr (Gr.drew _)) ?_
        simp only [pickI, pickL, List.drop_succ_cons, List.drop_zero]
        refine rs_v rfl (op_pure rfl) ?_
        refine rs_v rfl (op_pure rfl) ?_
        refine rs_v rfl (op_pure rfl) ?_
        refine rs_v rfl (op_ncA rfl sa_out) ?_
        refine rs_v rfl (op_fld Try.underlying59 rfl Try.sizeOf2 rfl rfl sa_out) ?_
        refine rs_v rfl (op_pure rfl) ?_
        refine rs_v rfl (op_pure rfl) ?_
        refine rs_v rfl (op_ncA rfl sa_out) ?_
        refine rs_v rfl (op_fld Try.underlying59 rfl Try.sizeOf2 rfl rfl sa_out) ?_
        refine rs_r rfl (fun τ wq hq => hq.ld (i := 0) rfl rfl Try.underlying2 rfl rfl (fldZ hz2 4 (by omega)) (fldZ hz3 4 (by omega))) ?_
        refine rs_v rfl (op_pure rfl) ?_
        refine rs_v rfl (op_pure rfl) ?_
        refine rs_special rfl rfl (fun wq hq => to_ldR Try.underlying2 rfl rfl (St.rd hq (i := 0) rfl) (fldZ hz2 3 (by omega)) ⟨rfl, hq⟩) ?_
        rintro v5 w5 ⟨rfl, _⟩
        refine rs_v rfl (op_pure rfl) ?_
        refine rs_v rfl (op_ncA rfl sa_out) ?_
        refine rs_v rfl (op_fld Try.underlying59 rfl Try.sizeOf2 rfl rfl sa_out) ?_
        refine rs_special rfl rfl (fun wq hq => to_storeR hq.2 (i := 0) rfl (Try.sizeOf2 _) rfl rfl rfl rfl (fldZ_lt hz2 3 (by omega)) (congrArg (fun xs => some [HA.row 59 7 A3 l0.length c3 xs, .map b_mp (idxL (labsN L (k + 1))), .row 2 1 A_vs (gw * gh) c_vs (ints V)]) e3) (fun w' S' => S')) ?_
        rintro v16 w16 _
        refine rs_nil ?_
        rintro wz hz_
        have S : St No W wz _ := hz_
        refine rw_v (op_ncA rfl sa_out) ?_
        refine rw_v (op_fld Try.underlying59 rfl Try.sizeOf2 rfl rfl sa_out) ?_
        refine rw_storeR (i := 0) S rfl (Try.sizeOf2 _) rfl rfl rfl rfl (fldZ_lt hz3 4 (by omega)) rfl ?_
        intro w9_ S
        first | refine rw_end ?_ | (refine rw_nil ?_; show CW _ _ _ _ _ _) | refine rw_nil ?_
        repeat refine cw_seq ?_
        refine cw_region ?_
        refine rw_v (op_rng rfl (by omega)) ?_
        refine rw_v (op_pure rfl) ?_
        first | refine rw_end ?_ | (refine rw_nil ?_; show CW _ _ _ _ _ _) | refine rw_nil ?_
        have S := S.row0 ((fldZ_set hz3 4 (by omega) (y := znUp z v) rfl).trans (by rw [List.set_set, hset]))
        exact ⟨m - 1, by omega, k + 1, A3, c3, by omega, ⟨rfl, rfl, rfl, by rw [hzl]; rfl, rfl, rfl, ie (by omega), trivial⟩, by rw [hzl] at S; exact S⟩
  · try simp only [decide_eq_true_eq, decide_eq_false_iff_not, beq_iff_eq, bne_iff_ne, beq_eq_false_iff_ne, bne_eq_false_iff_eq, Bool.not_eq_true', Bool.not_eq_false', ne_eq, Decidable.not_not, Int.natCast_inj, Int.ofNat_lt, Int.ofNat_le, gt_iff_lt, ge_iff_le, Int.not_lt, Int.not_le] at hc
    obtain rfl : k = gw * gh := by omega
    have hll := labsN_len (L := L) (gw * gh)
    repeat refine cw_seq ?_
    refine cw_exit ?_
    repeat first | refine exit_then ?_ | refine exit_inb ?_
    show CW _ _ _ _ _ _
    repeat refine cw_seq ?_
    refine cw_region ?_
    refine rw_v (op_pure rfl) ?_
    refine rw_call rfl (ssortZ_E S (i := 0) rfl (by rw [List.length_map]) (by rw [List.length_map]; omega) (fun h => ⟨_, rfl⟩)) ?_
    rintro _ w10_ ⟨rfl, l', hperm, hsort, L', hL', S⟩
    cases hL'
    first | refine rw_end ?_ | (refine rw_nil ?_; show CW _ _ _ _ _ _) | refine rw_nil ?_
    repeat refine cw_seq ?_
    refine cw_region ?_
    iterate 3 refine rw_v (op_pure rfl) ?_
    first | refine rw_end ?_ | (refine rw_nil ?_; show CW _ _ _ _ _ _) | refine rw_nil ?_
    repeat refine cw_seq ?_
    refine cw_ret ?_
    repeat first | refine ret_then ?_ | refine ret_inb ?_
    have hl' := zones_sorted hperm (hsort.imp fun h => by unfold cfZ cmpI at h; split at h <;> (try split at h) <;> omega)
    have hlen' : (labsN L (gw * gh)).length = (refLab L (gw * gh)).length := by have := hperm.length_eq; rw [hl'] at this; simpa using this.symm
    rw [hl'] at S
    rw [hlen'] at S ⊢
    exact res2 rfl rfl (S.retNew (i := 0) rfl)
end
end Go.Proofs.Yteihfmifelcidaa
/- Maps from pairs of whole numbers to whole numbers that a call makes: a look-up, a store, a new one, a range over one. -/
namespace Go.Proofs.Yteihfmifelcidaa
open Go.RowKit
set_option linter.unusedVariables false
set_option linter.unusedSimpArgs false
set_option maxRecDepth 100000

abbrev KP := Int × Int
def keyV (k : KP) : Value := .agg #[.int .i64 k.1, .int .i64 k.2]
section
variable {P : Program} {kt it : TypeId} {w : World}
theorem run_isAgg_int (hi : P.underlying it = some (.int .i64)) : (isAgg it).run P w = .ok false w := by
  simp [isAgg, run_underlying hi]
theorem run_part0 (hi : P.underlying it = some (.int .i64)) (x y : Int) : (part it #[.int .i64 x, .int .i64 y] 0).run P w = .ok (.int .i64 x) w := by
  unfold part
  simp [run_isAgg_int hi]
theorem run_part1 (hi : P.underlying it = some (.int .i64)) (x y : Int) : (part it #[.int .i64 x, .int .i64 y] 1).run P w = .ok (.int .i64 y) w := by
  unfold part
  simp [run_isAgg_int hi]
theorem run_equalKP (hk : P.underlying kt = some (.array 2 it)) (hi : P.underlying it = some (.int .i64)) (hz : ∀ w, (sizeOf it).run P w = .ok 1 w) (a b : KP) : (Op.equal kt (keyV a) (keyV b)).run P w = .ok (decide (a = b)) w := by
  unfold Op.equal
  rw [show Op.maxDepth = 9999 + 1 from rfl]
  unfold Op.equalIn
  have h0 := fun x y => run_part0 (P := P) (w := w) hi x y
  have h1 := fun x y => run_part1 (P := P) (w := w) hi x y
  simp only [keyV, Sem.run_bind, run_underlying hk, Result.andThen_ok, hz]
  have e1 : ∀ x y : Int, (Op.equalIn 9999 it (.int .i64 x) (.int .i64 y)).run P w = .ok (x == y) w := fun x y => run_equalIn_int w 9998 it .i64 .i64 x y hi
  obtain ⟨a1, a2⟩ := a
  obtain ⟨b1, b2⟩ := b
  by_cases c1 : a1 = b1 <;> by_cases c2 : a2 = b2 <;> simp [Std.Legacy.Range.forIn_eq_forIn_range', Std.Legacy.Range.size, List.range', h0, h1, e1, c1, c2]
theorem run_checkKP (hk : P.underlying kt = some (.array 2 it)) (hi : P.underlying it = some (.int .i64)) (hz : ∀ w, (sizeOf it).run P w = .ok 1 w) (em : Bool) (a : KP) : (Instr.checkKey em 10000 kt (keyV a)).run P w = .ok () w := by
  rw [show (10000 : Nat) = 9999 + 1 from rfl]
  unfold Instr.checkKey
  have h0 := fun x y => run_part0 (P := P) (w := w) hi x y
  have h1 := fun x y => run_part1 (P := P) (w := w) hi x y
  have e1 : ∀ x : Int, (Instr.checkKey em 9999 it (.int .i64 x)).run P w = .ok () w := fun x => by
    rw [show (9999 : Nat) = 9998 + 1 from rfl]
    unfold Instr.checkKey
    simp [run_underlying hi]
  simp [keyV, run_underlying hk, hz, Std.Legacy.Range.forIn_eq_forIn_range', Std.Legacy.Range.size, List.range', h0, h1, e1]
end
def encE (p : KP × Int) : Value × Value := (keyV p.1, .int .i64 p.2)
def kv (e : MapEntry) : Value × Value := (e.key, e.val)
def posA : List (KP × Int) → KP → Option (Nat × Int)
  | [], _ => none
  | p :: r, k => if k = p.1 then some (0, p.2) else (posA r k).map fun x => (x.1 + 1, x.2)
def lookA (ps : List (KP × Int)) (k : KP) : Option Int := (posA ps k).map (·.2)
def updA (ps : List (KP × Int)) (k : KP) (v : Int) : List (KP × Int) := match posA ps k with
  | none => ps ++ [(k, v)]
  | some (i, _) => ps.modify i fun _ => (k, v)
theorem keyV_inj {a b : KP} (h : keyV a = keyV b) : a = b := by
  unfold keyV at h
  obtain ⟨a1, a2⟩ := a
  obtain ⟨b1, b2⟩ := b
  simp at h
  rw [h.1, h.2]
theorem encE_inj {a b : KP × Int} (h : encE a = encE b) : a = b := by
  unfold encE at h
  obtain ⟨a1, a2⟩ := a
  obtain ⟨b1, b2⟩ := b
  simp at h
  rw [keyV_inj h.1, h.2]
theorem posA_some {k : KP} : ∀ {ps : List (KP × Int)} {i : Nat} {v : Int}, posA ps k = some (i, v) → ps[i]? = some (k, v)
  | [], _, _, h => by cases h
  | p :: r, i, v, h => by
    unfold posA at h
    split at h
    · rename_i e
      injection h with h
      obtain ⟨rfl, rfl⟩ := Prod.mk.inj h
      rw [e]; rfl
    · cases hp : posA r k with
      | none => rw [hp] at h; cases h
      | some x =>
        rw [hp] at h
        injection h with h
        obtain ⟨rfl, rfl⟩ := Prod.mk.inj h
        rw [List.getElem?_cons_succ]
        exact posA_some hp
theorem posA_none {k : KP} : ∀ {ps : List (KP × Int)}, posA ps k = none → k ∉ ps.map (·.1)
  | [], _ => by simp
  | p :: r, h => by
    unfold posA at h
    split at h
    · cases h
    · rename_i e
      rw [List.map_cons, List.mem_cons]
      exact fun hh => hh.elim e (posA_none (by simpa using h))
theorem keys_inj {ps : List (KP × Int)} (hn : (ps.map (·.1)).Nodup) {p q : KP × Int} (hp : p ∈ ps) (hq : q ∈ ps) (h : p.1 = q.1) : p = q := by
  induction ps with
  | nil => cases hp
  | cons a r ih =>
    rw [List.map_cons, List.nodup_cons] at hn
    rcases List.mem_cons.1 hp with e1 | hp1 <;> rcases List.mem_cons.1 hq with e2 | hq1
    · rw [e1, e2]
    · exact absurd (List.mem_map.2 ⟨q, hq1, by rw [← h, e1]⟩) hn.1
    · exact absurd (List.mem_map.2 ⟨p, hp1, by rw [h, e2]⟩) hn.1
    · exact ih hn.2 hp1 hq1
theorem lookA_some {ps : List (KP × Int)} (hn : (ps.map (·.1)).Nodup) {k : KP} {v : Int} : lookA ps k = some v ↔ (k, v) ∈ ps := by
  unfold lookA
  constructor
  · intro h
    cases hp : posA ps k with
    | none => rw [hp] at h; cases h
    | some x =>
      rw [hp] at h
      injection h with h
      have := posA_some (i := x.1) (v := x.2) hp
      rw [← h]
      exact List.mem_of_getElem? this
  · intro h
    cases hp : posA ps k with
    | none => exact absurd (List.mem_map.2 ⟨_, h, rfl⟩) (posA_none hp)
    | some x =>
      have h1 := List.mem_of_getElem? (posA_some (i := x.1) (v := x.2) hp)
      have := keys_inj hn h1 h rfl
      rw [Option.map_some, (Prod.mk.inj this).2]
theorem lookA_none {ps : List (KP × Int)} {k : KP} : lookA ps k = none ↔ k ∉ ps.map (·.1) := by
  unfold lookA
  constructor
  · intro h
    cases hp : posA ps k with
    | none => exact posA_none hp
    | some x => rw [hp] at h; cases h
  · intro h
    cases hp : posA ps k with
    | none => rfl
    | some x => exact absurd (List.mem_map.2 ⟨_, List.mem_of_getElem? (posA_some (i := x.1) (v := x.2) hp), rfl⟩) h
theorem modify_split {α : Type} {f : α → α} : ∀ {l : List α} {i : Nat} {a : α}, l[i]? = some a → ∃ x y, l = x ++ a :: y ∧ l.modify i f = x ++ f a :: y
  | [], _, _, h => by cases h
  | b :: l, 0, a, h => by
    injection h with h
    subst h
    exact ⟨[], l, rfl, by simp⟩
  | b :: l, i + 1, a, h => by
    rw [List.getElem?_cons_succ] at h
    obtain ⟨x, y, h1, h2⟩ := modify_split (f := f) h
    exact ⟨b :: x, y, by rw [h1]; rfl, by rw [List.modify_succ_cons, h2]; rfl⟩
theorem updA_keys {ps : List (KP × Int)} {k : KP} {v : Int} (hn : (ps.map (·.1)).Nodup) : ((updA ps k v).map (·.1)).Nodup := by
  unfold updA
  split
  · rename_i h
    rw [List.map_append, List.nodup_append]
    refine ⟨hn, by simp, fun a ha b hb e => posA_none h ?_⟩
    have : b = k := by simpa using hb
    rw [← this, ← e]; exact ha
  · rename_i i v' h
    obtain ⟨x, y, h1, h2⟩ := modify_split (f := fun _ => (k, v)) (posA_some h)
    rw [h2]
    rw [h1] at hn
    simpa using hn
theorem mem_updA {ps : List (KP × Int)} {k : KP} {v : Int} (hn : (ps.map (·.1)).Nodup) {p : KP × Int} : p ∈ updA ps k v ↔ p = (k, v) ∨ (p.1 ≠ k ∧ p ∈ ps) := by
  unfold updA
  split
  · rename_i h
    rw [List.mem_append, List.mem_singleton]
    constructor
    · rintro (h1 | h1)
      · exact .inr ⟨fun e => posA_none h (List.mem_map.2 ⟨p, h1, e⟩), h1⟩
      · exact .inl h1
    · rintro (h1 | ⟨_, h1⟩)
      · exact .inr h1
      · exact .inl h1
  · rename_i i v' h
    obtain ⟨x, y, h1, h2⟩ := modify_split (f := fun _ => (k, v)) (posA_some h)
    rw [h2]
    subst h1
    rw [List.map_append, List.map_cons, List.nodup_append, List.nodup_cons] at hn
    simp only [List.mem_append, List.mem_cons]
    have hx : p ∈ x → p.1 ≠ k := fun hp e => hn.2.2 p.1 (List.mem_map.2 ⟨p, hp, rfl⟩) k (by simp) e
    have hy : p ∈ y → p.1 ≠ k := fun hp e => hn.2.1.1 (List.mem_map.2 ⟨p, hp, e⟩)
    constructor
    · rintro (h1 | h1 | h1)
      · exact .inr ⟨hx h1, .inl h1⟩
      · exact .inl h1
      · exact .inr ⟨hy h1, .inr (.inr h1)⟩
    · rintro (h1 | ⟨h0, h1 | h1 | h1⟩)
      · exact .inr (.inl h1)
      · exact .inl h1
      · exact absurd (by rw [h1]) h0
      · exact .inr (.inr h1)
section
variable {P : Program} {kt it : TypeId} {w : World}
theorem run_findKP (hk : P.underlying kt = some (.array 2 it)) (hi : P.underlying it = some (.int .i64)) (hz : ∀ w, (sizeOf it).run P w = .ok 1 w) (k : KP) :
    ∀ (es : List MapEntry) (ps : List (KP × Int)) (i : Nat), es.map kv = ps.map encE → (Instr.findAsking kt (keyV k) es i).run P w = .ok ((posA ps k).map fun x => (i + x.1, .int .i64 x.2)) w
  | [], [], _, _ => by simp [Instr.findAsking, posA]
  | e :: es, [], _, h => by cases h
  | [], p :: ps, _, h => by cases h
  | e :: es, p :: ps, i, h => by
    rw [List.map_cons, List.map_cons] at h
    injection h with h1 h2
    have hek : e.key = keyV p.1 := congrArg Prod.fst h1
    have hev : e.val = .int .i64 p.2 := congrArg Prod.snd h1
    unfold Instr.findAsking posA
    simp only [Sem.run_bind, hek, run_equalKP hk hi hz, Result.andThen_ok, decide_eq_true_eq]
    by_cases c : k = p.1
    · simp [c, hev]
    · rw [if_neg c, if_neg c, run_findKP hk hi hz k es ps (i + 1) h2]
      cases posA ps k with
      | none => rfl
      | some x => simp; omega
theorem run_findKeyP (hk : P.underlying kt = some (.array 2 it)) (hi : P.underlying it = some (.int .i64)) (hz : ∀ w, (sizeOf it).run P w = .ok 1 w) (k : KP) (es : List MapEntry) (ps : List (KP × Int)) (h : es.map kv = ps.map encE) :
    (Instr.findKey kt (keyV k) es).run P w = .ok ((posA ps k).map fun x => (x.1, .int .i64 x.2)) w := by
  have h1 := run_findKP (w := w) hk hi hz k es ps 0 h
  simp only [Nat.zero_add] at h1
  unfold Instr.findKey
  simp only [Sem.run_bind, run_underlying hk, Result.andThen_ok]
  cases es with
  | nil =>
    cases ps with
    | nil => simp [Instr.findNow, posA]
    | cons p ps => cases h
  | cons e es =>
    have : Instr.findNow (.array 2 it) (keyV k) (e :: es) 0 = none := by simp [Instr.findNow, Instr.sameNow]
    rw [this]
    exact h1
end
structure MapsTo (es : Array MapEntry) (clock : Nat) (ps : List (KP × Int)) : Prop where
  kv : es.toList.map kv = ps.map encE
  born : ∀ e ∈ es.toList, e.born < clock
  nodup : (es.toList.map (·.born)).Nodup
  keys : (ps.map (·.1)).Nodup
theorem born_inj {l : List MapEntry} (hn : (l.map (·.born)).Nodup) {p q : MapEntry} (hp : p ∈ l) (hq : q ∈ l) (h : p.born = q.born) : p = q := by
  induction l with
  | nil => cases hp
  | cons a r ih =>
    rw [List.map_cons, List.nodup_cons] at hn
    rcases List.mem_cons.1 hp with e1 | hp1 <;> rcases List.mem_cons.1 hq with e2 | hq1
    · rw [e1, e2]
    · exact absurd (List.mem_map.2 ⟨q, hq1, by rw [← h, e1]⟩) hn.1
    · exact absurd (List.mem_map.2 ⟨p, hp1, by rw [h, e2]⟩) hn.1
    · exact ih hn.2 hp1 hq1
theorem MapsTo.push {es : Array MapEntry} {clock : Nat} {ps : List (KP × Int)} (h : MapsTo es clock ps) {k : KP} {v : Int} (hp : posA ps k = none) : MapsTo (es.push ⟨keyV k, .int .i64 v, clock⟩) (clock + 1) (updA ps k v) := by
  refine ⟨?_, fun e he => ?_, ?_, updA_keys h.keys⟩
  · unfold updA
    rw [hp, Array.toList_push, List.map_append, List.map_append, h.kv]
    rfl
  · rw [Array.toList_push, List.mem_append, List.mem_singleton] at he
    rcases he with he | rfl
    · have := h.born e he; omega
    · exact Nat.lt_succ_self _
  · rw [Array.toList_push, List.map_append, List.nodup_append]
    refine ⟨h.nodup, by simp, fun a ha b hb e => ?_⟩
    obtain ⟨e1, he1, rfl⟩ := List.mem_map.1 ha
    have h1 := h.born e1 he1
    have h2 : b = clock := by simpa using hb
    omega
theorem MapsTo.modify {es : Array MapEntry} {clock i : Nat} {ps : List (KP × Int)} (h : MapsTo es clock ps) {k : KP} {v v0 : Int} (hp : posA ps k = some (i, v0)) : MapsTo (es.modify i fun e => { e with key := keyV k, val := .int .i64 v }) clock (updA ps k v) := by
  have hat := posA_some hp
  have hlen : es.toList.length = ps.length := by have := congrArg List.length h.kv; simpa using this
  obtain ⟨e, he⟩ : ∃ e, es.toList[i]? = some e := by
    have := (List.getElem?_eq_some_iff.1 hat).1
    exact ⟨_, List.getElem?_eq_getElem (by omega)⟩
  obtain ⟨x, y, h1, h2⟩ := modify_split (f := fun e : MapEntry => { e with key := keyV k, val := .int .i64 v }) he
  have hb : ((es.modify i fun e => { e with key := keyV k, val := .int .i64 v }).toList.map (·.born)) = es.toList.map (·.born) := by
    rw [Array.toList_modify, h2, h1]
    simp
  refine ⟨?_, fun e' he' => ?_, by rw [hb]; exact h.nodup, updA_keys h.keys⟩
  · unfold updA
    rw [hp]
    apply List.ext_getElem?
    intro j
    have hj : (es.toList.map Go.Proofs.Yteihfmifelcidaa.kv)[j]? = (ps.map encE)[j]? := by rw [h.kv]
    rw [Array.toList_modify, List.getElem?_map, List.getElem?_map, List.getElem?_modify, List.getElem?_modify]
    rw [List.getElem?_map, List.getElem?_map] at hj
    by_cases e1 : i = j
    · subst e1
      rw [he, hat]
      simp [Go.Proofs.Yteihfmifelcidaa.kv, encE]
    · simp only [e1, if_false]
      simpa using hj
  · have : e'.born ∈ (es.modify i fun e => { e with key := keyV k, val := .int .i64 v }).toList.map (·.born) := List.mem_map.2 ⟨e', he', rfl⟩
    rw [hb] at this
    obtain ⟨e2, h3, h4⟩ := List.mem_map.1 this
    rw [← h4]
    exact h.born e2 h3
/-- an iterator has brought ds of the map's entries -/
structure Came (es : Array MapEntry) (ps : List (KP × Int)) (seen : Array Nat) (vs : List (KP × Int)) : Prop where
  ex : ∃ ds : List MapEntry, seen.toList = ds.map (·.born) ∧ vs.map encE = ds.map kv ∧ (∀ d ∈ ds, d ∈ es.toList) ∧ (ds.map (·.born)).Nodup
theorem Came.step {es : Array MapEntry} {ps vs : List (KP × Int)} {seen : Array Nat} {clock : Nat} (hm : MapsTo es clock ps) (h : Came es ps seen vs) {e : MapEntry} (he : e ∈ es.toList) (hn : seen.contains e.born = false) :
    ∃ p, p ∈ ps ∧ kv e = encE p ∧ Came es ps (seen.push e.born) (vs ++ [p]) := by
  obtain ⟨ds, h1, h2, h3, h4⟩ := h.ex
  have : kv e ∈ ps.map encE := hm.kv ▸ List.mem_map.2 ⟨e, he, rfl⟩
  obtain ⟨p, hp, hpe⟩ := List.mem_map.1 this
  refine ⟨p, hp, hpe.symm, ds ++ [e], ?_, ?_, fun d hd => ?_, ?_⟩
  · rw [Array.toList_push, h1, List.map_append]; rfl
  · rw [List.map_append, List.map_append, h2]
    show _ ++ [encE p] = _ ++ [kv e]
    rw [hpe]
  · rcases List.mem_append.1 hd with hd | hd
    · exact h3 d hd
    · rw [List.mem_singleton.1 hd]; exact he
  · rw [List.map_append, List.nodup_append]
    refine ⟨h4, by simp, fun a ha b hb e1 => ?_⟩
    have hb' : b = e.born := by simpa using hb
    have : e.born ∈ seen.toList := by rw [h1, ← hb', ← e1]; exact ha
    have h5 : seen.contains e.born = true := by rw [Array.contains_iff_mem]; exact Array.mem_toList_iff.1 this
    rw [h5] at hn
    cases hn
theorem Came.len {es : Array MapEntry} {ps vs : List (KP × Int)} {seen : Array Nat} {clock : Nat} (hm : MapsTo es clock ps) (h : Came es ps seen vs) : vs.length ≤ ps.length := by
  obtain ⟨ds, h1, h2, h3, h4⟩ := h.ex
  have e1 : vs.length = ds.length := by simpa using congrArg List.length h2
  have e2 : es.toList.length = ps.length := by simpa using congrArg List.length hm.kv
  have := List.Nodup.length_le_of_subset h4 (l₂ := es.toList.map (·.born)) (fun b hb => by
    obtain ⟨d, hd, rfl⟩ := List.mem_map.1 hb
    exact List.mem_map.2 ⟨d, h3 d hd, rfl⟩)
  simp only [List.length_map] at this
  omega
theorem Came.all {es : Array MapEntry} {ps vs : List (KP × Int)} {seen : Array Nat} {clock : Nat} (hm : MapsTo es clock ps) (h : Came es ps seen vs) (hall : ∀ e ∈ es.toList, seen.contains e.born = true) : vs.Perm ps := by
  obtain ⟨ds, h1, h2, h3, h4⟩ := h.ex
  have nd : ∀ {l : List MapEntry}, (l.map (·.born)).Nodup → l.Nodup := fun {l} hl => by
    have : l.Pairwise fun a b => a.born ≠ b.born := List.pairwise_map.1 hl
    exact this.imp fun {a b} hab e => hab (by rw [e])
  have hp : ds.Perm es.toList := (List.perm_ext_iff_of_nodup (nd h4) (nd hm.nodup)).2 fun e => ⟨h3 e, fun he => by
    have h5 := hall e he
    rw [Array.contains_iff_mem] at h5
    have h6 : e.born ∈ ds.map (·.born) := h1 ▸ Array.mem_toList_iff.2 h5
    obtain ⟨d, hd, hb⟩ := List.mem_map.1 h6
    rw [← born_inj hm.nodup (h3 d hd) he hb]
    exact hd⟩
  have h7 := hp.map kv
  rw [← h2, hm.kv] at h7
  have dec : ∀ l : List (KP × Int), (l.map encE).map (fun x : Value × Value => match x with
      | (.agg a, .int _ v) => (match a.toList with
        | [.int _ x, .int _ y] => ((x, y), v)
        | _ => ((0, 0), 0))
      | _ => (((0 : Int), (0 : Int)), (0 : Int))) = l := fun l => by
    rw [List.map_map]
    exact (List.map_congr_left (fun p _ => rfl)).trans (List.map_id l)
  have h8 := h7.map (fun x : Value × Value => match x with
      | (.agg a, .int _ v) => (match a.toList with
        | [.int _ x, .int _ y] => ((x, y), v)
        | _ => ((0, 0), 0))
      | _ => (((0 : Int), (0 : Int)), (0 : Int)))
  rwa [dec, dec] at h8
def MpP (w : World) (b : Nat) (ps : List (KP × Int)) : Prop := ∃ es clock, w.heap[b]? = some (.map es clock) ∧ MapsTo es clock ps
def ItP (w : World) (b r : Nat) (ps vs : List (KP × Int)) : Prop := b ≠ r ∧ ∃ es clock seen, w.heap[b]? = some (.map es clock) ∧ w.heap[r]? = some (.mapIter (some b) clock seen clock) ∧ MapsTo es clock ps ∧ Came es ps seen vs
section
variable {P : Program} {ops : Array Oper} {Q : (Nat → Value) → World → Prop} {e : Nat → Value} {w w' : World} {rest : List Oper} {d : Option Tmp} {ty : TypeId} {pn : String} {af : Array Edge} {b r : Nat} {ps vs : List (KP × Int)}
theorem heap_lt {o : Obj} {b : Nat} (h : w.heap[b]? = some o) : b < w.heap.size := (Array.getElem?_eq_some_iff.1 h).1
theorem MpP.lt (h : MpP w b ps) : b < w.heap.size := by obtain ⟨_, _, h, _⟩ := h; exact heap_lt h
theorem MpP.keep (h : MpP w b ps) (hk : w'.heap[b]? = w.heap[b]?) : MpP w' b ps := by
  obtain ⟨es, c, h, h2⟩ := h
  exact ⟨es, c, hk.trans h, h2⟩
def HA.mapP (b : Nat) (ps : List (KP × Int)) : HA := ⟨fun g => g = b, fun w => MpP w b ps, fun _ _ h _ hB => hB.keep (h b rfl), fun _ hB g hg => hg ▸ hB.lt⟩
def HA.iterP (b r : Nat) (ps vs : List (KP × Int)) : HA := ⟨fun g => g = b ∨ g = r, fun w => ItP w b r ps vs,
  fun _ _ h _ ⟨hn, es, c, seen, h1, h2, h3, h4⟩ => ⟨hn, es, c, seen, (h b (.inl rfl)).trans h1, (h r (.inr rfl)).trans h2, h3, h4⟩,
  fun _ ⟨_, es, c, seen, h1, h2, _⟩ g hg => hg.elim (fun e => e ▸ heap_lt h1) (fun e => e ▸ heap_lt h2)⟩
theorem run_getObj_map {m : Nat} {es : Array MapEntry} {c : Nat} (h : w.heap[m]? = some (.map es c)) : (getObj m).run P w = .ok (.map es c) w := by
  simp [getObj, Sem.run, h]
theorem run_setObj_mapP {m : Nat} {es : Array MapEntry} {c : Nat} (o : Obj) (h : w.heap[m]? = some (.map es c)) : (setObj m o).run P w = .ok () { w with heap := w.heap.setIfInBounds m o } := by
  simp [setObj, Sem.run, h]
theorem run_lookP {t kt et it : TypeId} (hu : P.underlying t = some (.map kt et)) (hk : P.underlying kt = some (.array 2 it)) (hi : P.underlying it = some (.int .i64)) (hz1 : ∀ w, (sizeOf it).run P w = .ok 1 w) (hz : (zeroValue et).run P w = .ok (.int .i64 0) w) (h : MpP w b ps) (k : KP) (ok : Bool) :
    (Instr.lookup t (.map (some b)) (keyV k) ok).run P w = .ok (if ok then .tuple #[.int .i64 ((lookA ps k).getD 0), .bool (lookA ps k).isSome] else .int .i64 ((lookA ps k).getD 0)) w := by
  obtain ⟨es, c, hb, hm⟩ := h
  have h1 := run_findKeyP (w := w) hk hi hz1 k es.toList ps hm.kv
  unfold lookA
  cases hp : posA ps k with
  | none => rw [hp] at h1; cases ok <;> simp [Instr.lookup, run_underlying hu, run_getObj_map hb, run_checkKP hk hi hz1, h1, hz]
  | some x => rw [hp] at h1; cases ok <;> simp [Instr.lookup, run_underlying hu, run_getObj_map hb, run_checkKP hk hi hz1, h1]
theorem run_updP {t kt et it : TypeId} (hu : P.underlying t = some (.map kt et)) (hk : P.underlying kt = some (.array 2 it)) (hi : P.underlying it = some (.int .i64)) (hz1 : ∀ w, (sizeOf it).run P w = .ok 1 w) (h : MpP w b ps) (k : KP) (v : Int) :
    ∃ w', (Instr.mapUpdate t (.map (some b)) (keyV k) (.int .i64 v)).run P w = .ok () w' ∧ w.grownBy w' (some b) ∧ MpP w' b (updA ps k v) := by
  obtain ⟨es, c, hb, hm⟩ := h
  have hlt : b < w.heap.size := heap_lt hb
  have hgr : ∀ o : Obj, w.grownBy { w with heap := w.heap.setIfInBounds b o } (some b) := fun o =>
    ⟨rfl, rfl, rfl, by simp, fun i _ hi => by simp only [Array.getElem?_setIfInBounds]; rw [if_neg (fun e => hi (by rw [e]))]⟩
  have hat : ∀ o : Obj, ({ w with heap := w.heap.setIfInBounds b o } : World).heap[b]? = some o := fun o => by simp [hlt]
  have h1 := run_findKeyP (w := w) hk hi hz1 k es.toList ps hm.kv
  cases hp : posA ps k with
  | none =>
    rw [hp] at h1
    refine ⟨_, ?_, hgr (.map (es.push ⟨keyV k, .int .i64 v, c⟩) (c + 1)), _, _, hat _, hm.push hp⟩
    simp [Instr.mapUpdate, run_underlying hu, run_getObj_map hb, run_checkKP hk hi hz1, h1, run_setObj_mapP _ hb]
  | some x =>
    obtain ⟨j, v0⟩ := x
    rw [hp] at h1
    refine ⟨_, ?_, hgr (.map (es.modify j fun e => { e with key := keyV k, val := .int .i64 v }) c), _, _, hat _, hm.modify hp⟩
    have h4 : (es[j]?.map (·.key)).getD (keyV k) = keyV k := by
      have h2 := posA_some hp
      have h3 : (es.toList.map kv)[j]? = (ps.map encE)[j]? := by rw [hm.kv]
      rw [List.getElem?_map, List.getElem?_map, h2, show es.toList[j]? = es[j]? by simp] at h3
      cases he : es[j]? with
      | none => rfl
      | some e1 =>
        rw [he] at h3
        injection h3 with h3
        exact congrArg Prod.fst h3
    have h5 : Instr.sameBits 10000 (keyV k) (keyV k) = true := by simp [Instr.sameBits, keyV]
    have h6 : (Instr.keyThatStays (keyV k) (keyV k)).run P w = .ok (keyV k) w := by unfold Instr.keyThatStays; simp [h5]
    simp only [Instr.mapUpdate, Sem.run_bind, run_underlying hu, Result.andThen_ok, run_getObj_map hb, run_checkKP hk hi hz1, h1, Option.map_some, h4, h6, run_setObj_mapP _ hb]
theorem op_lookP {t kt et it : TypeId} {x i : Operand} {k : KP} (hu : P.underlying t = some (.map kt et)) (hk : P.underlying kt = some (.array 2 it)) (hi : P.underlying it = some (.int .i64)) (hz1 : ∀ w, (sizeOf it).run P w = .ok 1 w) (hz : (zeroValue et).run P w = .ok (.int .i64 0) w) (hx : ev e x = .map (some b)) (hy : ev e i = keyV k) (h : MpP w b ps) :
    OpR P e ⟨d, .lookup t x i false, ty, pn, af, none⟩ w (.int .i64 ((lookA ps k).getD 0)) := by
  have := run_lookP (P := P) hu hk hi hz1 hz h k false
  simp [OpR, execOp, hx, hy, this]
variable {F : Nat → Prop} {W : World} {L L' : List HA}
theorem St.mapP (S : St F W w L) {i : Nat} (hi : getO L i = some (.mapP b ps)) : MpP w b ps := S.ok hi
theorem rw_mapUpdP {i : Nat} {t kt et it : TypeId} {x y z : Operand} {k : KP} {v : Int} (S : St F W w L) (hi : getO L i = some (.mapP b ps)) (hu : P.underlying t = some (.map kt et)) (hk : P.underlying kt = some (.array 2 it)) (hit : P.underlying it = some (.int .i64)) (hz1 : ∀ w, (sizeOf it).run P w = .ok 1 w) (hx : ev e x = .map (some b)) (hy : ev e y = keyV k) (hv : ev e z = .int .i64 v)
    (hs : setO L i (.mapP b (updA ps k v)) = some L') (hr : ∀ w', St F W w' L' → RW P ops Q rest (updO e d undef) w') : RW P ops Q (⟨d, .mapUpdate t x y z, ty, pn, af, none⟩ :: rest) e w := by
  obtain ⟨w', hrun, hg, hM⟩ := run_updP (P := P) hu hk hit hz1 (S.mapP hi) k v
  refine rw_s (w' := w') ?_ (hr w' ?_)
  · simp [execOp, hx, hy, hv, hrun]
  · exact S.set hi hs (Fr.of_grown (F := fun b' => b' = b) hg (fun b e => by injection e with e; exact e.symm)) (fun b e => .inl e) hM (fun b e => .inl e)
theorem rw_makeMapP {t : TypeId} (S : St F W w L) (hr : ∀ b w', Gr w w' → St F W w' (.mapP b [] :: L) → RW P ops Q rest (updO e d (.map (some b))) w') : RW P ops Q (⟨d, .makeMap t none, ty, pn, af, none⟩ :: rest) e w := by
  refine rw_w (v := .map (some w.heap.size)) (w' := w.alloc (.map #[] 0)) ?_ (hr _ _ (Gr.alloc w _) ?_)
  · have := @run_makeMap P t w
    simp [execOp, this]
  · exact S.push (Gr.alloc w _) (h := .mapP w.heap.size []) ⟨#[], 0, heap_alloc_new w _, ⟨rfl, (fun e he => by simp at he), by simp, by simp⟩⟩ (fun g hg => by rw [hg]; exact Nat.le_refl _)
/-- a range over the map begins -/
theorem rw_rangeP {i : Nat} {t kt et : TypeId} {x : Operand} {f : HA → List HA} (S : St F W w L) (hi : getO L i = some (.mapP b ps)) (hf : ∀ h, setO L i h = some (f h)) (hu : P.underlying t = some (.map kt et)) (hx : ev e x = .map (some b))
    (hr : ∀ r w', St F W w' (f (.iterP b r ps [])) → RW P ops Q rest (updO e d (.pointer (some ⟨r, 0, none⟩))) w') : RW P ops Q (⟨d, .range t x, ty, pn, af, none⟩ :: rest) e w := by
  obtain ⟨es, c, hb, hm⟩ := S.mapP hi
  have hlt := heap_lt hb
  refine rw_w (v := .pointer (some ⟨w.heap.size, 0, none⟩)) (w' := w.alloc (.mapIter (some b) c #[] c)) ?_ (hr _ _ ?_)
  · simp [execOp, hx, Instr.range, run_underlying hu, run_getObj_map hb, go_sem]
  · refine S.set hi (hf _) (F' := fun g => g = w.heap.size) (Fr.of_gr (Gr.alloc w _)) (fun g hg => .inr (by omega)) ⟨by omega, es, c, #[], ?_, heap_alloc_new w _, hm, ⟨[], by simp, rfl, by simp, by simp⟩⟩ (fun g hg => hg.imp id (fun e => by omega))
    rw [← hb]
    exact (Gr.alloc w _).block b hlt
/-- the next entry -/
theorem rw_nextP {i : Nat} {x : Operand} {f : HA → List HA} (S : St F W w L) (hi : getO L i = some (.iterP b r ps vs)) (hf : ∀ h, setO L i h = some (f h)) (hL : f (.iterP b r ps vs) = L) (hx : ev e x = .pointer (some ⟨r, 0, none⟩))
    (hdone : vs.Perm ps → RW P ops Q rest (updO e d (.tuple #[.bool false])) w)
    (hmore : ∀ p w', p ∈ ps → vs.length < ps.length → St F W w' (f (.iterP b r ps (vs ++ [p]))) → RW P ops Q rest (updO e d (.tuple #[.bool true, keyV p.1, .int .i64 p.2])) w') : RW P ops Q (⟨d, .next x false, ty, pn, af, none⟩ :: rest) e w := by
  obtain ⟨hne, es, c, seen, hb, hr, hm, hc⟩ := S.ok hi
  rcases run_next_at (P := P) w ty r b c c seen es c hr hb hm.born (Nat.le_refl _) with ⟨h0, hrun⟩ | ⟨e1, he1, w1, hw1, hrun⟩
  · refine rw_w (v := .tuple #[.bool false]) (w' := w) ?_ (hdone (hc.all hm fun e1 he1 => ?_))
    · simp [execOp, hx, hrun]
    · by_cases h1 : seen.contains e1.born = true
      · exact h1
      · exfalso
        have h2 : leftOf es seen = #[] := Array.eq_empty_of_size_eq_zero h0
        have h3 : e1 ∈ leftOf es seen := by
          unfold leftOf
          rw [Array.mem_filter]
          exact ⟨Array.mem_toList_iff.1 he1, by simpa using h1⟩
        rw [h2] at h3
        simp at h3
  · have he2 : e1 ∈ es.toList ∧ seen.contains e1.born = false := by
      unfold leftOf at he1
      rw [Array.mem_toList_iff, Array.mem_filter] at he1
      exact ⟨Array.mem_toList_iff.2 he1.1, by simpa using he1.2⟩
    obtain ⟨p, hp, hkv, hc2⟩ := hc.step hm he2.1 he2.2
    have hk1 : e1.key = keyV p.1 := congrArg Prod.fst hkv
    have hk2 : e1.val = .int .i64 p.2 := congrArg Prod.snd hkv
    have hlen := hc2.len hm
    rw [List.length_append] at hlen
    have hrl := heap_lt hr
    have hw : w1.heap = w.heap := by rcases hw1 with rfl | rfl <;> rfl
    refine rw_w (v := .tuple #[.bool true, keyV p.1, .int .i64 p.2]) (w' := ChangeMaps.setBlock w1 r (.mapIter (some b) c (seen.push e1.born) c)) ?_ (hmore p _ hp (by simp at hlen; omega) ?_)
    · simp [execOp, hx, hrun, hk1, hk2]
    · refine S.set hi (hf _) (F' := fun g => g = r) ?_ (fun g hg => .inl (.inr hg)) ⟨hne, es, c, seen.push e1.born, ?_, ?_, hm, hc2⟩ (fun g hg => .inl hg)
      · refine ⟨by rcases hw1 with rfl | rfl <;> rfl, by rcases hw1 with rfl | rfl <;> rfl, by rcases hw1 with rfl | rfl <;> rfl, by simp [ChangeMaps.setBlock, hw], fun g hg hn => ?_⟩
        simp only [ChangeMaps.setBlock, hw, Array.getElem?_setIfInBounds]
        rw [if_neg (fun e => hn e.symm)]
      · simp only [ChangeMaps.setBlock, hw, Array.getElem?_setIfInBounds]
        rw [if_neg (fun e => hne e.symm)]
        exact hb
      · simp [ChangeMaps.setBlock, hw, hrl]
/-- the entry that came last -/
theorem op_entryP {i : Nat} {x : Operand} {p : KP × Int} (S : St F W w L) (hi : getO L i = some (.iterP b r ps (vs ++ [p]))) (hx : ev e x = .pointer (some ⟨r, 0, none⟩)) :
    OpR P e ⟨d, .entry x, ty, pn, af, none⟩ w (.tuple #[keyV p.1, .int .i64 p.2]) := by
  obtain ⟨hne, es, c, seen, hb, hr, hm, hc⟩ := S.ok hi
  obtain ⟨ds, h1, h2, h3, h4⟩ := hc.ex
  rw [List.map_append] at h2
  obtain ⟨ds1, ds2, rfl, h5, h6⟩ := List.append_eq_map_iff.1 h2
  obtain ⟨e1, rfl, h7⟩ : ∃ e1, ds2 = [e1] ∧ kv e1 = encE p := by
    cases ds2 with
    | nil => cases h6
    | cons e1 t =>
      cases t with
      | nil => exact ⟨e1, rfl, by simpa using h6⟩
      | cons _ _ => simp at h6
  have hs : seen = (ds1.map (·.born)).toArray.push e1.born := by
    rw [← Array.toList_inj, h1]
    simp
  have hk1 : e1.key = keyV p.1 := congrArg Prod.fst h7
  have hk2 : e1.val = .int .i64 p.2 := congrArg Prod.snd h7
  rw [hs] at hr
  have := run_entry_at (P := P) w r b c _ es c e1 hr hb (h3 e1 (by simp)) hm.nodup
  simp [OpR, execOp, hx, this, hk1, hk2]
end
end Go.Proofs.Yteihfmifelcidaa
/- m[k] op= v in a map from pairs of whole numbers: the entry, and the store into it. -/
namespace Go.Proofs.Yteihfmifelcidaa
open Go.RowKit
set_option linter.unusedVariables false
set_option linter.unusedSimpArgs false
set_option maxRecDepth 100000

def entA (ps : List (KP × Int)) (k : KP) : List (KP × Int) := if posA ps k = none then ps ++ [(k, 0)] else ps
theorem entA_none {ps : List (KP × Int)} {k : KP} (h : posA ps k = none) : entA ps k = updA ps k 0 := by unfold entA updA; rw [if_pos h, h]
theorem entA_some {ps : List (KP × Int)} {k : KP} {x : Nat × Int} (h : posA ps k = some x) : entA ps k = ps := by unfold entA; rw [if_neg (by rw [h]; exact fun h => by cases h)]
theorem entA_keys {ps : List (KP × Int)} {k : KP} (hn : (ps.map (·.1)).Nodup) : ((entA ps k).map (·.1)).Nodup := by
  cases h : posA ps k with
  | none => rw [entA_none h]; exact updA_keys hn
  | some x => rw [entA_some h]; exact hn
theorem lookA_entA {ps : List (KP × Int)} {k : KP} (hn : (ps.map (·.1)).Nodup) : (lookA (entA ps k) k).getD 0 = (lookA ps k).getD 0 := by
  cases h : posA ps k with
  | none =>
    rw [entA_none h]
    have h1 : lookA (updA ps k 0) k = some 0 := (lookA_some (updA_keys hn)).2 ((mem_updA hn).2 (.inl rfl))
    rw [h1]
    unfold lookA
    rw [h]; rfl
  | some x => rw [entA_some h]
theorem mem_updE {ps : List (KP × Int)} {k : KP} {v : Int} (hn : (ps.map (·.1)).Nodup) {p : KP × Int} : p ∈ updA (entA ps k) k v ↔ p = (k, v) ∨ (p.1 ≠ k ∧ p ∈ ps) := by
  rw [mem_updA (entA_keys hn)]
  cases h : posA ps k with
  | none =>
    rw [entA_none h, mem_updA hn]
    constructor
    · rintro (h1 | ⟨h1, h2⟩)
      · exact .inl h1
      · rcases h2 with h2 | ⟨_, h2⟩
        · exact absurd (by rw [h2]) h1
        · exact .inr ⟨h1, h2⟩
    · rintro (h1 | ⟨h1, h2⟩)
      · exact .inl h1
      · exact .inr ⟨h1, .inr ⟨h1, h2⟩⟩
  | some x => rw [entA_some h]
/-- a map with an entry at k whose stamp is s -/
def MpE (w : World) (b : Nat) (ps : List (KP × Int)) (k : KP) (s : Nat) : Prop := ∃ es clock, w.heap[b]? = some (.map es clock) ∧ MapsTo es clock ps ∧ ∃ (i : Nat) (v : Int) (e1 : MapEntry), posA ps k = some (i, v) ∧ es[i]? = some e1 ∧ e1.born = s
theorem MpE.mp {w : World} {b : Nat} {ps : List (KP × Int)} {k : KP} {s : Nat} (h : MpE w b ps k s) : MpP w b ps := by obtain ⟨es, c, h1, h2, _⟩ := h; exact ⟨es, c, h1, h2⟩
def HA.mapE (b : Nat) (ps : List (KP × Int)) (k : KP) (s : Nat) : HA := ⟨fun g => g = b, fun w => MpE w b ps k s, fun _ _ h _ ⟨es, c, h1, h2⟩ => ⟨es, c, (h b rfl).trans h1, h2⟩, fun _ hB g hg => hg ▸ hB.mp.lt⟩
section
variable {P : Program} {ops : Array Oper} {Q : (Nat → Value) → World → Prop} {e : Nat → Value} {w w' : World} {rest : List Oper} {d : Option Tmp} {ty : TypeId} {pn : String} {af : Array Edge} {b r : Nat} {ps vs : List (KP × Int)}
theorem run_mapEntry {t kt et it : TypeId} (hu : P.underlying t = some (.map kt et)) (hk : P.underlying kt = some (.array 2 it)) (hi : P.underlying it = some (.int .i64)) (hz1 : ∀ w, (sizeOf it).run P w = .ok 1 w) (hz : (zeroValue et).run P w = .ok (.int .i64 0) w) (h : MpP w b ps) (k : KP) :
    ∃ w' s, (Instr.mapEntry t (.map (some b)) (keyV k)).run P w = .ok (.tuple #[.int .i64 ((lookA ps k).getD 0), .int .i64 (s : Nat)]) w' ∧ w.grownBy w' (some b) ∧ MpE w' b (entA ps k) k s := by
  obtain ⟨es, c, hb, hm⟩ := h
  have hlt : b < w.heap.size := heap_lt hb
  have hgr : ∀ o : Obj, w.grownBy { w with heap := w.heap.setIfInBounds b o } (some b) := fun o =>
    ⟨rfl, rfl, rfl, by simp, fun i _ hi => by simp only [Array.getElem?_setIfInBounds]; rw [if_neg (fun e => hi (by rw [e]))]⟩
  have hat : ∀ o : Obj, ({ w with heap := w.heap.setIfInBounds b o } : World).heap[b]? = some o := fun o => by simp [hlt]
  have h1 := run_findKeyP (w := w) hk hi hz1 k es.toList ps hm.kv
  have hlen : es.toList.length = ps.length := by have := congrArg List.length hm.kv; simpa using this
  unfold lookA
  cases hp : posA ps k with
  | none =>
    rw [hp] at h1
    refine ⟨_, c, ?_, hgr (.map (es.push ⟨keyV k, .int .i64 0, c⟩) (c + 1)), _, _, hat _, by rw [entA_none hp]; exact hm.push hp, ps.length, 0, ⟨keyV k, .int .i64 0, c⟩, ?_, ?_, rfl⟩
    · simp [Instr.mapEntry, run_underlying hu, run_getObj_map hb, run_checkKP hk hi hz1, h1, hz, run_setObj_mapP _ hb]
      rfl
    · rw [entA_none hp]
      unfold updA
      rw [hp]
      clear h1 hlen hm
      induction ps with
      | nil => simp [posA]
      | cons p r ih =>
        unfold posA at hp
        split at hp
        · cases hp
        · rename_i hne
          have := ih (by simpa using hp)
          simp only [List.cons_append, posA, if_neg hne]
          dsimp only at this
          rw [this]
          simp
    · rw [show ps.length = es.size by simpa using hlen.symm]
      simp
  | some x =>
    obtain ⟨j, v0⟩ := x
    rw [hp] at h1
    have h2 := posA_some hp
    have hj : j < ps.length := (List.getElem?_eq_some_iff.1 h2).1
    have hj2 : j < es.size := by rw [Array.length_toList] at hlen; omega
    have h3 : (es.toList.map kv)[j]? = (ps.map encE)[j]? := by rw [hm.kv]
    rw [List.getElem?_map, List.getElem?_map, h2, show es.toList[j]? = es[j]? by simp, Array.getElem?_eq_getElem hj2] at h3
    have h3' : kv es[j] = encE (k, v0) := by injection h3
    have hek : es[j].key = keyV k := congrArg Prod.fst h3'
    have h4 : (es[j]?.map (·.key)).getD (keyV k) = keyV k := by rw [Array.getElem?_eq_getElem hj2]; exact hek
    have h5 : Instr.sameBits 10000 (keyV k) (keyV k) = true := by simp [Instr.sameBits, keyV]
    have h6 : (Instr.keyThatStays (keyV k) (keyV k)).run P w = .ok (keyV k) w := by unfold Instr.keyThatStays; simp [h5]
    have hes : (es.modify j fun e => { e with key := keyV k }) = es := by
      apply Array.ext_getElem?
      intro i
      rw [Array.getElem?_modify]
      by_cases e1 : j = i
      · subst e1
        rw [Array.getElem?_eq_getElem hj2]
        simp [← hek]
      · rw [if_neg e1]
    refine ⟨_, es[j].born, ?_, hgr (.map es c), es, c, hat _, by rw [entA_some hp]; exact hm, j, v0, es[j], by rw [entA_some hp]; exact hp, Array.getElem?_eq_getElem hj2, rfl⟩
    simp only [Instr.mapEntry, Sem.run_bind, run_underlying hu, Result.andThen_ok, run_getObj_map hb, run_checkKP hk hi hz1, h1, Option.map_some, h4, h6, hes, run_setObj_mapP _ hb]
    simp [Array.getElem?_eq_getElem hj2, goInt]
theorem run_entryStore {t : TypeId} {k : KP} {s : Nat} (h : MpE w b ps k s) (v : Int) :
    ∃ w', (Instr.entryStore t (.map (some b)) (.int .i64 s) (.int .i64 v)).run P w = .ok () w' ∧ w.grownBy w' (some b) ∧ MpP w' b (updA ps k v) := by
  obtain ⟨es, c, hb, hm, i, v0, e1, hp, he, hs⟩ := h
  have hlt : b < w.heap.size := heap_lt hb
  have hgr : ∀ o : Obj, w.grownBy { w with heap := w.heap.setIfInBounds b o } (some b) := fun o =>
    ⟨rfl, rfl, rfl, by simp, fun i _ hi => by simp only [Array.getElem?_setIfInBounds]; rw [if_neg (fun e => hi (by rw [e]))]⟩
  have hat : ∀ o : Obj, ({ w with heap := w.heap.setIfInBounds b o } : World).heap[b]? = some o := fun o => by simp [hlt]
  obtain ⟨hi, hie⟩ := Array.getElem?_eq_some_iff.1 he
  have hfind : es.findIdx? (fun e => (e.born : Int) == (s : Int)) = some i := by
    rw [Array.findIdx?_eq_some_iff_getElem]
    refine ⟨hi, by rw [hie, hs]; simp, fun j hj => ?_⟩
    have hjs : j < es.size := by omega
    simp only [beq_iff_eq]
    intro hc
    have h1 : (es.toList.map (·.born))[j]'(by simpa using hjs) = (es.toList.map (·.born))[i]'(by simpa using hi) := by
      simp only [List.getElem_map, Array.getElem_toList, hie, hs]
      omega
    exact List.pairwise_iff_getElem.1 hm.nodup j i (by simpa using hjs) (by simpa using hi) hj h1
  have h2 := posA_some hp
  have h3 : (es.toList.map kv)[i]? = (ps.map encE)[i]? := by rw [hm.kv]
  rw [List.getElem?_map, List.getElem?_map, h2, show es.toList[i]? = es[i]? by simp, he] at h3
  have h3' : kv e1 = encE (k, v0) := by injection h3
  have hek : e1.key = keyV k := congrArg Prod.fst h3'
  have hes : (es.modify i fun e => { e with val := Value.int .i64 v }) = es.modify i fun e => { e with key := keyV k, val := .int .i64 v } := by
    apply Array.ext_getElem?
    intro j
    rw [Array.getElem?_modify, Array.getElem?_modify]
    by_cases e2 : i = j
    · subst e2
      rw [he]
      simp [hek]
    · rw [if_neg e2, if_neg e2]
  refine ⟨_, ?_, hgr (.map (es.modify i fun e => { e with key := keyV k, val := .int .i64 v }) c), _, _, hat _, hm.modify hp⟩
  simp [Instr.entryStore, run_getObj_map hb, hfind, hes, run_setObj_mapP _ hb, asInt, asIntOf]
/-- before the entry, and behind it -/
def CMe (F : Nat → Prop) (W : World) (L : List HA) (i : Nat) (b : Nat) (ps : List (KP × Int)) (k : KP) (σ : List Value) (w : World) : Prop := match σ with
  | [] => St F W w L
  | v :: _ => ∃ (s : Nat) (L1 : List HA), v = .tuple #[.int .i64 ((lookA ps k).getD 0), .int .i64 s] ∧ setO L i (.mapE b (entA ps k) k s) = some L1 ∧ St F W w L1
variable {F : Nat → Prop} {W : World} {L L' : List HA}
theorem CMe.look {t kt et it : TypeId} {x y : Operand} {k : KP} {i : Nat} {σ : List Value} (hq : CMe F W L i b ps k σ w) (hn : (ps.map (·.1)).Nodup) (hi : getO L i = some (.mapP b ps)) (hg : ∀ h L1, setO L i h = some L1 → getO L1 i = some h)
    (hu : P.underlying t = some (.map kt et)) (hk : P.underlying kt = some (.array 2 it)) (hit : P.underlying it = some (.int .i64)) (hz1 : ∀ w, (sizeOf it).run P w = .ok 1 w) (hz : (zeroValue et).run P w = .ok (.int .i64 0) w) (hx : ev e x = .map (some b)) (hy : ev e y = keyV k) :
    OpR P e ⟨d, .lookup t x y false, ty, pn, af, none⟩ w (.int .i64 ((lookA ps k).getD 0)) := by
  cases σ with
  | nil => exact op_lookP hu hk hit hz1 hz hx hy (St.mapP hq hi)
  | cons v σ =>
    obtain ⟨s, L1, _, hs, S⟩ := hq
    have := op_lookP (P := P) (d := d) (ty := ty) (pn := pn) (af := af) hu hk hit hz1 hz hx hy (MpE.mp (S.ok (hg _ _ hs)))
    rwa [lookA_entA hn] at this
theorem to_mapEntry {t kt et it : TypeId} {x y : Operand} {k : KP} {i : Nat} (hq : CMe F W L i b ps k [] w) (hi : getO L i = some (.mapP b ps)) (hs : ∀ h, ∃ L1, setO L i h = some L1)
    (hu : P.underlying t = some (.map kt et)) (hk : P.underlying kt = some (.array 2 it)) (hit : P.underlying it = some (.int .i64)) (hz1 : ∀ w, (sizeOf it).run P w = .ok 1 w) (hz : (zeroValue et).run P w = .ok (.int .i64 0) w) (hx : ev e x = .map (some b)) (hy : ev e y = keyV k) :
    opTo P e ⟨d, .mapEntry t x y, ty, pn, af, none⟩ w (fun v w' => CMe F W L i b ps k [v] w') := by
  obtain ⟨w', s, hrun, hg, hM⟩ := run_mapEntry hu hk hit hz1 hz (St.mapP hq hi) k
  obtain ⟨L1, hL1⟩ := hs (.mapE b (entA ps k) k s)
  refine to_w (v := .tuple #[.int .i64 ((lookA ps k).getD 0), .int .i64 s]) (w' := w') ?_ ⟨s, L1, rfl, hL1, ?_⟩
  · simp [execOp, hx, hy, hrun]
  · exact St.set hq hi hL1 (Fr.of_grown (F := fun b' => b' = b) hg (fun b e => by injection e with e; exact e.symm)) (fun b e => .inl e) hM (fun b e => .inl e)
theorem rw_entryStore {i : Nat} {t : TypeId} {x y z : Operand} {k : KP} {s : Nat} {v : Int} (S : St F W w L) (hi : getO L i = some (.mapE b ps k s)) (hx : ev e x = .map (some b)) (hy : ev e y = .int .i64 s) (hv : ev e z = .int .i64 v)
    (hs : setO L i (.mapP b (updA ps k v)) = some L') (hr : ∀ w', St F W w' L' → RW P ops Q rest (updO e d undef) w') : RW P ops Q (⟨d, .entryStore t x y z, ty, pn, af, none⟩ :: rest) e w := by
  obtain ⟨w', hrun, hg, hM⟩ := run_entryStore (P := P) (t := t) (S.ok hi) v
  refine rw_s (w' := w') ?_ (hr w' ?_)
  · simp [execOp, hx, hy, hv, hrun]
  · exact S.set hi hs (Fr.of_grown (F := fun b' => b' = b) hg (fun b e => by injection e with e; exact e.symm)) (fun b e => .inl e) hM (fun b e => .inl e)
end
end Go.Proofs.Yteihfmifelcidaa
/- A range over a function: the statement, its rounds, the iterator's calls of yield, and the mark that the activation keeps. -/
namespace Go.Proofs.Yteihfmifelcidaa
open Go.RowKit
set_option linter.unusedVariables false
set_option linter.unusedSimpArgs false

/-- a block that is whatever object -/
def HA.obj (b : Nat) (o : Obj) : HA := ⟨fun g => g = b, fun w => w.heap[b]? = some o, fun _ _ h _ ho => (h b rfl).trans ho, fun w ho g hg => by subst hg; exact (Array.getElem?_eq_some_iff.1 ho).1⟩
section
variable {P : Program} {F : Nat → Prop} {W w : World} {L L' : List HA} {b i : Nat} {o o' : Obj}
theorem Fr.putObj (w : World) (b : Nat) (o : Obj) : Fr (fun g => g = b) w (w.putObj b o) := ⟨rfl, rfl, rfl, by simp, fun g _ hn => World.putObj_heap_other hn⟩
theorem St.putObj (S : St F W w L) (hi : getO L i = some (.obj b o)) (hs : setO L i (.obj b o') = some L') : St F W (w.putObj b o') L' :=
  S.set hi hs (Fr.putObj w b o') (fun g hg => .inl hg) (World.putObj_heap_same (Array.getElem?_eq_some_iff.1 (S.ok hi)).1) (fun g hg => .inl hg)
theorem St.pushObj (S : St F W w L) (o : Obj) : St F W (w.alloc o) (.obj w.heap.size o :: L) :=
  S.push (Gr.alloc w o) (h := .obj w.heap.size o) (World.alloc_heap_new w o) (fun g hg => by have : g = w.heap.size := hg; omega)
end

/-- what a call of yield comes to -/
def Yld (P : Program) (l : Nat) (vs : List Value) (w : World) (R : Value → World → Prop) : Prop :=
  ∃ fn tmps sg bd, (Instr.yield l vs.toArray).run P w = .ok (.round l fn tmps sg bd) w ∧ RoundIn Fence.wide 0 P l fn tmps sg bd w fun en w' => ∃ v, en = .returned v ∧ R v w'
theorem Yld.mono {P : Program} {l : Nat} {vs : List Value} {w : World} {R R' : Value → World → Prop} (h : Yld P l vs w R) (hr : ∀ v w', R v w' → R' v w') : Yld P l vs w R' := by
  obtain ⟨fn, tmps, sg, bd, hy, hR⟩ := h
  exact ⟨fn, tmps, sg, bd, hy, hR.mono fun en w' ⟨v, e, h⟩ => ⟨v, e, hr v w' h⟩⟩
section
variable {P : Program} {ops : Array Oper} {Q : (Nat → Value) → World → Prop} {rest : List Oper} {e : Nat → Value} {w : World} {d : Option Tmp} {ty : TypeId} {ps : String} {af : Array Edge}
/-- an iterator calls yield -/
theorem rw_yield {l : Nat} {f : Operand} {args : List Operand} {tys : Array TypeId} {vs : List Value} {R : Value → World → Prop} (hf : ev e f = .func (.yield l) #[] #[]) (hv : fzl (args.map (ev e)) = some vs)
    (hy : Yld P l vs w R) (h : ∀ v w', R v w' → RW P ops Q rest (updO e d v) w') : RW P ops Q (⟨d, .call ⟨.value f, args.toArray, tys⟩, ty, ps, af, none⟩ :: rest) e w := by
  have h0 := fzl_eq hv
  obtain ⟨fn, tmps, sg, bd, hrun, hR⟩ := hy
  have hx : (execOp (ev e) ⟨d, .call ⟨.value f, args.toArray, tys⟩, ty, ps, af, none⟩).run P w = .ok (.round l fn tmps sg bd) w := by
    simp [execOp, resolve, hf, Deferred.ofValue, invoke, h0, hrun]
  rw [RW_t rfl]
  unfold opNext
  rw [hx]
  exact ⟨rfl, hR.mono fun en w' ⟨v, he, hv⟩ => ⟨v, he, h v w' hv⟩⟩
end

/-! ### A function's code up to the statement, and behind it -/
def mark (D : Nat) : Deferred := { target := .collected D, args := #[] }
/-- Code of an activation, in which a range over a function may stand: it ends by Qn where none was gone through, else by Qm, the mark among the deferred calls. -/
def CWK (P : Program) (N : Nat) (c : Code) (Qn : Exit → (Nat → Value) → World → Prop) (Qm : Nat → Exit → (Nat → Value) → World → Prop) (e : Nat → Value) (w : World) : Prop :=
  codeOk N c = true → ∀ a, Rep N [] e a → c.wpIn (wF none) 0 P (fun x a' w' => (∃ e', Rep N [] e' a' ∧ Qn x e' w') ∨ ∃ e' D, Rep N [mark D] e' a' ∧ Qm D x e' w') a w
def NoN (Q : Exit → (Nat → Value) → World → Prop) : Exit → (Nat → Value) → World → Prop
  | .normal, _, _ => False
  | x, e, w => Q x e w
/-- The statement: env stays; a mark is pushed. -/
def RF (P : Program) (N : Nat) (g : Operand) (ps : Array Tmp) (sg bd : Code) (K : Nat → (Nat → Value) → World → Prop) (e : Nat → Value) (w : World) : Prop :=
  ∀ a, Rep N [] e a → (Code.rangeFunc g ps sg bd).wpIn (wF none) 0 P (fun x a' w' => x = .normal ∧ ∃ D, Rep N [mark D] e a' ∧ K D e w') a w
section
variable {P : Program} {N : Nat} {Qn : Exit → (Nat → Value) → World → Prop} {Qm : Nat → Exit → (Nat → Value) → World → Prop} {e : Nat → Value} {w : World}
theorem cwk_seq_r {x y : Code} (h : CW P N x (Then (CWK P N y Qn Qm) Qn) e w) : CWK P N (.seq x y) Qn Qm e w := fun hc a hr => by
  simp only [codeOk, Bool.and_eq_true] at hc
  refine wpIn_seq (wpIn_mono (h hc.1 [] a hr none) ?_)
  rintro x' a' w' ⟨e', hr', hq⟩
  cases x' <;> first | exact hq hc.2 a' hr' | exact .inl ⟨e', hr', hq⟩
theorem cwk_seq_l {x y : Code} (h : CWK P N x (NoN Qn) (fun D => Then (CW P N y (Qm D)) (Qm D)) e w) : CWK P N (.seq x y) Qn Qm e w := fun hc a hr => by
  simp only [codeOk, Bool.and_eq_true] at hc
  refine wpIn_seq (wpIn_mono (h hc.1 a hr) ?_)
  rintro x' a' w' (⟨e', hr', hq⟩ | ⟨e', D, hr', hq⟩)
  · cases x' <;> first | exact hq.elim | exact .inl ⟨e', hr', hq⟩
  · cases x' <;> first | exact .inr ⟨e', D, hr', hq⟩ | skip
    refine wpIn_mono (hq hc.2 [mark D] a' hr' none) ?_
    rintro x2 a2 w2 ⟨e2, hr2, hq2⟩
    exact .inr ⟨e2, D, hr2, hq2⟩
theorem cwk_rf {g : Operand} {ps : Array Tmp} {sg bd : Code} (h : RF P N g ps sg bd (fun D e w => Qm D .normal e w) e w) : CWK P N (.rangeFunc g ps sg bd) Qn Qm e w := fun _ a hr => by
  refine wpIn_mono (h a hr) ?_
  rintro x a' w' ⟨rfl, D, hr', hq⟩
  exact .inr ⟨e, D, hr', hq⟩
theorem cwk_block {id : Nat} {g : Operand} {ps : Array Tmp} {sg bd : Code} (h : RF P N g ps sg bd (fun D e w => Qm D .normal e w) e w) : CWK P N (.block id (.rangeFunc g ps sg bd)) Qn Qm e w := fun _ a hr => by
  refine wpIn_block (wpIn_mono (h a hr) ?_)
  rintro x a' w' ⟨rfl, D, hr', hq⟩
  exact .inr ⟨e, D, hr', hq⟩
end
/-- At the end the mark's block is shut. -/
def QM (P : Program) (rs : Array ResultVar) (R : Value → World → Prop) (D : Nat) : Exit → (Nat → Value) → World → Prop
  | .normal, e, w | .ret, e, w => w.heap[D]? = some (.deferred (some [])) ∧ Res P R rs e (w.putObj D (.deferred none))
  | _, _, _ => False
theorem qf_ret {P : Program} {rs : Array ResultVar} {R : Value → World → Prop} {e : Nat → Value} {w : World} (h : QF P rs R .ret e w) : Res P R rs e w := h
theorem qm_ret {P : Program} {rs : Array ResultVar} {R : Value → World → Prop} {D i : Nat} {e : Nat → Value} {F : Nat → Prop} {W w : World} {L L' : List HA} (S : St F W w L) (hi : getO L i = some (.obj D (.deferred (some [])))) (hs : setO L i (.obj D (.deferred none)) = some L') (h : ∀ w', St F W w' L' → Res P R rs e w') : QM P rs R D .ret e w :=
  ⟨S.ok hi, h _ (S.putObj hi hs)⟩
theorem Fn_enter_rf {P : Program} {f : FuncId} {fn : Func} {c : Code} {args : List Value} {w : World} {R : Value → World → Prop} {rs : Array ResultVar} {N : Nat}
    (hf : P.funcs[f]? = some fn) (hb : fn.body = some c) (hr : fn.results = rs) (hN : fn.ntmps = N) (hcl : callableB P f = true) (hk : (codeOk N c && Nat.ble args.length N) = true)
    (h : CWK P N c (QF P rs R) (QM P rs R) (envOf args) w) : Fn P f args w R := by
  simp only [Bool.and_eq_true] at hk
  have hle : args.length ≤ N := Nat.le_of_ble_eq_true hk.2
  refine ⟨hcl, callsIn_wide.1 (callsIn_of_wp_marks (F := Fence.wide) (n := 0) hf hb trivial ?_)⟩
  refine wpIn_mono (h hk.1 _ ⟨rfl, by simp [hN]; omega, fun k => ?_⟩) ?_
  · simp only [envOf, List.getD_eq_getElem?_getD, Array.getD_eq_getD_getElem?, Array.getElem?_append, List.size_toArray, List.getElem?_toArray, hN]
    split
    · rfl
    · rename_i hge
      rw [List.getElem?_eq_none (by omega)]
      simp only [Array.getElem?_replicate]
      split <;> rfl
  · rintro x a' w' (⟨e', hr', hq⟩ | ⟨e', D, hr', hq⟩)
    · cases x <;> first | exact hq.elim | skip
      all_goals
        obtain ⟨v, hv, hR⟩ := hq
        show LeavesInM _ _ _ _ _ _ _ _ _
        rw [hr'.defers]
        exact ⟨v, hv fn _ hr hr'.get, v, rfl, hR⟩
    · cases x <;> first | exact hq.elim | skip
      all_goals
        obtain ⟨hD, v, hv, hR⟩ := hq
        show LeavesInM _ _ _ _ _ _ _ _ _
        rw [hr'.defers]
        exact ⟨by simp, .inl ⟨D, _, rfl, run_takeDeferred hD, v, hv fn _ hr hr'.get, v, rfl, hR⟩⟩

/-! ### The law of the statement -/
def updL (e : Nat → Value) : List (Nat × Value) → Nat → Value
  | [] => e
  | (p, v) :: r => updL (upd e p v) r
theorem Rep.updL {N : Nat} {df : List Deferred} : ∀ (l : List (Nat × Value)) {e : Nat → Value} {a : Act}, Rep N df e a → (l.all fun p => Nat.blt p.1 N) = true → Rep N df (updL e l) { a with tmps := l.foldl (fun t (p, v) => t.setIfInBounds p v) a.tmps }
  | [], _, _, h, _ => h
  | (p, v) :: r, e, a, h, hd => by
    simp only [List.all_cons, Bool.and_eq_true] at hd
    exact Rep.updL r (h.put (d := some p) hd.1 v) hd.2
def LoopIs (st : LoopState) (o : Obj) : Prop := ∃ r : Loop, o = .loop r ∧ r.state = st
section
variable {P : Program} {N : Nat} {g : Operand} {ps : Array Tmp} {sg bd : Code} {K : Nat → (Nat → Value) → World → Prop} {e : Nat → Value} {w W : World} {F : Nat → Prop}
/-- The iterator is a function whose contract is told for whatever its calls of yield do; a round: the assignment, then the body. -/
theorem rf_law {σ : Type} {gf : FuncId} {lb : List Value} (Inv : σ → List HA → Prop) (step : σ → List Value → σ → Prop) (fin : σ → Prop) (s0 : σ) {L0 : List HA} (hg : ev e g = .func (.func gf) #[] lb.toArray) (hcl : callableB P gf = true) (hkc : (codeOk N sg && codeOk N bd && ps.toList.all (fun p => Nat.blt p N)) = true)
    (Mid : σ → σ → (Nat → Value) → List HA → Prop) (h0 : Inv s0 L0) (S : St F W w L0) (hlen : ∀ s vs s', step s vs s' → vs.length = ps.size)
    (hit : ∀ (l : Nat) (J : σ → World → Prop) (w1 : World), (∀ s w w', J s w → Gr w w' → J s w') → (∀ s w, J s w → ∃ L, Inv s L ∧ ∃ o d : HA, St F W w (o :: d :: L)) → J s0 w1 → (∀ s vs s' w, step s vs s' → J s w → Yld P l vs w fun v w' => v = .bool true ∧ J s' w') →
      Fn P gf (.func (.yield l) #[] #[] :: lb) w1 fun _ w' => ∃ s, fin s ∧ J s w')
    (hsg : ∀ (o d : HA) (s : σ) (vs : List Value) (s' : σ) (w : World) (L : List HA), step s vs s' → Inv s L → St F W w (o :: d :: L) → CW P N sg (Then (fun e' w' => ∃ L', Mid s s' e' L' ∧ St F W w' (o :: d :: L')) fun _ _ _ => False) (updL e (ps.toList.zip vs)) w)
    (hbd : ∀ (o d : HA) (s s' : σ) (e' : Nat → Value) (w : World) (L : List HA), Mid s s' e' L → St F W w (o :: d :: L) → CW P N bd (Then (fun _ w' => ∃ L', Inv s' L' ∧ St F W w' (o :: d :: L')) fun _ _ _ => False) e' w)
    (hK : ∀ (l D : Nat) (o : Obj) (s : σ) (w' : World) (L : List HA), fin s → Inv s L → St F W w' (.obj l o :: .obj D (.deferred (some [])) :: L) → K D e w') : RF P N g ps sg bd K e w := by
  intro a hr
  simp only [Bool.and_eq_true] at hkc
  refine wpIn_rangeFunc fun fn _ => ?_
  have S1 := S.pushObj (.deferred (some []))
  have S2 := S1.pushObj (.loop { state := .ready, pending := none, fn, tmps := a.tmps, params := ps, assign := sg, body := bd, defers := w.heap.size })
  rw [World.size_alloc] at S2
  generalize hW1 : (w.alloc (.deferred (some []))).alloc (.loop { state := .ready, pending := none, fn, tmps := a.tmps, params := ps, assign := sg, body := bd, defers := w.heap.size }) = W1 at S2
  have hent := run_enterLoop_outer (P := P) (w := w) fn a.tmps ps sg bd
  rw [hW1] at hent
  generalize w.heap.size + 1 = l at *
  generalize w.heap.size = D at *
  have eg : ∀ args w, (callFunc gf args).run P w = .ok (.enter gf args) w := fun args w => run_callFunc_E hcl args w
  let rec_ : LoopState → Obj := fun st => .loop { state := st, pending := none, fn, tmps := a.tmps, params := ps, assign := sg, body := bd, defers := D }
  let J : σ → World → Prop := fun s w' => ∃ L, Inv s L ∧ St F W w' (.obj l (rec_ .ready) :: .obj D (.deferred (some [])) :: L)
  have hJy : ∀ s vs s' w, step s vs s' → J s w → Yld P l vs w fun v w' => v = .bool true ∧ J s' w' := by
    rintro s vs s' w2 hst ⟨L, hI, T⟩
    have hl := T.ok (i := 0) rfl
    have hy := run_yield (P := P) (args := vs.toArray) hl (by simpa using hlen s vs s' hst)
    refine ⟨fn, _, sg, bd, hy, roundIn_of_wpIn (F := Fence.wide) trivial ?_⟩
    have hrep : Rep N [] (updL e (ps.toList.zip vs)) { tmps := (ps.zip vs.toArray).foldl (fun t (p, v) => t.setIfInBounds p v) a.tmps, defers := [] } := by
      have h1 := Rep.updL (ps.toList.zip vs) (a := { tmps := a.tmps, defers := [] }) ⟨rfl, hr.size, hr.get⟩ (List.all_eq_true.2 fun p hp => List.all_eq_true.1 hkc.2 p.1 (List.of_mem_zip hp).1)
      have h2 : (ps.zip vs.toArray).foldl (fun t (p, v) => t.setIfInBounds p v) a.tmps = (ps.toList.zip vs).foldl (fun t (p, v) => t.setIfInBounds p v) a.tmps := by
        rw [← Array.foldl_toList]; simp
      rw [h2]
      exact h1
    refine wpIn_mono (hsg _ _ s vs s' w2 L hst hI T hkc.1.1 [] _ hrep (some l)) ?_
    rintro x a1 w3 ⟨e1, hr1, hq⟩
    cases x <;> first | exact hq.elim | skip
    obtain ⟨L1, hM, T1⟩ := hq
    have hl1 := T1.ok (i := 0) rfl
    refine ⟨_, run_beginRound hl1 rfl, ?_⟩
    have T2 : St F W (w3.putObj l (rec_ .busy)) (.obj l (rec_ .busy) :: .obj D (.deferred (some [])) :: L1) := T1.putObj (i := 0) rfl rfl
    refine wpIn_mono (hbd _ _ s s' e1 _ L1 hM T2 hkc.1.2 [] a1 hr1 (some l)) ?_
    rintro x a2 w4 ⟨e2, hr2, hq⟩
    cases x <;> first | exact hq.elim | skip
    obtain ⟨L2, hI2, T3⟩ := hq
    have hl3 := T3.ok (i := 0) rfl
    exact ⟨_, _, run_endRound none hl3, _, rfl, rfl, L2, hI2, T3.putObj (i := 0) rfl rfl⟩
  have hfn := hit l J W1 (fun s w w' ⟨L, hI, T⟩ g => ⟨L, hI, T.gr g⟩) (fun s w ⟨L, hI, T⟩ => ⟨L, hI, _, _, T⟩) ⟨L0, h0, S2⟩ hJy
  refine ⟨l, [mark D], W1, { target := .fn (.func gf) lb.toArray, args := #[.func (.yield l) #[] #[]] }, W1, gf, #[.func (.yield l) #[] #[]] ++ lb.toArray, W1, hent, ?_, fun _ _ => trivial, ?_, fun h => (by cases h), ?_⟩
  · have h1 : ev e (.const (.func (.yield l) #[] #[])) = .func (.yield l) #[] #[] := rfl
    simp [resolve, hr.eval, hg, h1, Deferred.ofValue]
  · simp [invoke, go_sem, eg]
  · refine (callsIn_wide (n := 0)).2 ?_
    have h2 := hfn.2
    rw [show (Value.func (.yield l) #[] #[] :: lb).toArray = #[.func (.yield l) #[] #[]] ++ lb.toArray by simp] at h2
    refine h2.mono ?_
    rintro en w' ⟨v, rfl, s, hf, L, hI, T⟩
    have hl := T.ok (i := 0) rfl
    refine ⟨none, _, run_endLoop hl (by simp), rfl, D, ⟨?_, hr.size, hr.get⟩, hK l D _ s _ L hf hI (T.putObj (i := 0) rfl rfl)⟩
    show [mark D] ++ a.defers = [mark D]
    rw [hr.defers]; rfl
end
end Go.Proofs.Yteihfmifelcidaa
/- A range over a function whose iterator keeps a block of its own. -/
namespace Go.Proofs.Yteihfmifelcidaa
open Go.RowKit
set_option linter.unusedVariables false
set_option linter.unusedSimpArgs false

/-- nothing -/
def HA.no : HA := ⟨fun _ => False, fun _ => True, fun _ _ _ _ _ => trivial, fun _ _ _ h => h.elim⟩
/-- two parts as one -/
def HA.both (a b : HA) : HA := ⟨fun g => a.own g ∨ b.own g, fun w => a.ok w ∧ b.ok w ∧ ∀ g, a.own g → ¬ b.own g, fun w w' h hs ⟨h1, h2, h3⟩ => ⟨a.st w w' (fun g hg => h g (.inl hg)) hs h1, b.st w w' (fun g hg => h g (.inr hg)) hs h2, h3⟩, fun w ⟨h1, h2, _⟩ g hg => hg.elim (a.lt w h1 g) (b.lt w h2 g)⟩
theorem SepL.permX {X : Nat → Prop} {w : World} {L L' : List HA} (p : L.Perm L') : SepL X w L → SepL X w L' := by
  induction p with
  | nil => exact id
  | cons a p ih => exact fun h => ⟨h.1, fun g hg h' hh => h.2.1 g hg h' (p.mem_iff.2 hh), ih h.2.2⟩
  | swap a b l =>
    intro h
    refine ⟨h.2.2.1, fun g hg h' hh => ?_, h.1, fun g hg h' hh => h.2.1 g hg h' (List.mem_cons_of_mem _ hh), h.2.2.2.2⟩
    rcases List.mem_cons.1 hh with e | hh
    · subst e; exact fun ho => h.2.1 g ho a List.mem_cons_self hg
    · exact h.2.2.2.1 g hg h' hh
  | trans _ _ ih1 ih2 => exact fun h => ih2 (ih1 h)
theorem St.permX {F : Nat → Prop} {W w : World} {L L' : List HA} (S : St F W w L) (p : L.Perm L') : St F W w L' := ⟨S.fr, S.sep.permX p⟩
theorem rf_cutX {P : Program} {N : Nat} {g : Operand} {ps : Array Tmp} {sg bd : Code} {K : Nat → (Nat → Value) → World → Prop} {e : Nat → Value} {w : World} (M : (Nat → Value) → Prop) (hM : M e) (h : ∀ e, M e → RF P N g ps sg bd K e w) : RF P N g ps sg bd K e w := h e hM
section
variable {P : Program} {N : Nat} {g : Operand} {ps : Array Tmp} {sg bd : Code} {K : Nat → (Nat → Value) → World → Prop} {e : Nat → Value} {w W : World} {F : Nat → Prop}
/-- The iterator is a function whose contract is told for whatever its calls of yield do; a round: the assignment, then the body. -/
theorem rf_lawX {σ : Type} {gf : FuncId} {lb : List Value} (Inv : σ → List HA → Prop) (step : σ → List Value → σ → Prop) (fin : σ → Prop) (s0 : σ) {L0 : List HA} (hg : ev e g = .func (.func gf) #[] lb.toArray) (hcl : callableB P gf = true) (hkc : (codeOk N sg && codeOk N bd && ps.toList.all (fun p => Nat.blt p N)) = true)
    (Mid : σ → σ → (Nat → Value) → List HA → Prop) (h0 : Inv s0 L0) (S : St F W w L0) (hlen : ∀ s vs s', step s vs s' → vs.length = ps.size)
    (hit : ∀ (l : Nat) (J : HA → σ → World → Prop) (w1 : World), (∀ x x' s w w', J x s w → Fr x.own w w' → x'.ok w' → (∀ g, x'.own g → x.own g ∨ w.heap.size ≤ g) → J x' s w') → (∀ x s w, J x s w → x.ok w ∧ ∃ L, Inv s L ∧ ∃ o d : HA, St F W w (o :: d :: L)) → J .no s0 w1 →
      (∀ x s vs s' w, step s vs s' → J x s w → Yld P l vs w fun v w' => v = .bool true ∧ J x s' w') → Fn P gf (.func (.yield l) #[] #[] :: lb) w1 fun _ w' => ∃ x s, fin s ∧ J x s w')
    (hsg : ∀ (o d : HA) (s : σ) (vs : List Value) (s' : σ) (w : World) (L : List HA), step s vs s' → Inv s L → St F W w (o :: d :: L) → CW P N sg (Then (fun e' w' => ∃ L', Mid s s' e' L' ∧ St F W w' (o :: d :: L')) fun _ _ _ => False) (updL e (ps.toList.zip vs)) w)
    (hbd : ∀ (o d : HA) (s s' : σ) (e' : Nat → Value) (w : World) (L : List HA), Mid s s' e' L → St F W w (o :: d :: L) → CW P N bd (Then (fun _ w' => ∃ L', Inv s' L' ∧ St F W w' (o :: d :: L')) fun _ _ _ => False) e' w)
    (hK : ∀ (l D : Nat) (o : Obj) (s : σ) (w' : World) (L : List HA), fin s → Inv s L → St F W w' (.obj l o :: .obj D (.deferred (some [])) :: L) → K D e w') : RF P N g ps sg bd K e w := by
  intro a hr
  simp only [Bool.and_eq_true] at hkc
  refine wpIn_rangeFunc fun fn _ => ?_
  have S1 := S.pushObj (.deferred (some []))
  have S2 := S1.pushObj (.loop { state := .ready, pending := none, fn, tmps := a.tmps, params := ps, assign := sg, body := bd, defers := w.heap.size })
  rw [World.size_alloc] at S2
  generalize hW1 : (w.alloc (.deferred (some []))).alloc (.loop { state := .ready, pending := none, fn, tmps := a.tmps, params := ps, assign := sg, body := bd, defers := w.heap.size }) = W1 at S2
  have hent := run_enterLoop_outer (P := P) (w := w) fn a.tmps ps sg bd
  rw [hW1] at hent
  generalize w.heap.size + 1 = l at *
  generalize w.heap.size = D at *
  have eg : ∀ args w, (callFunc gf args).run P w = .ok (.enter gf args) w := fun args w => run_callFunc_E hcl args w
  let rec_ : LoopState → Obj := fun st => .loop { state := st, pending := none, fn, tmps := a.tmps, params := ps, assign := sg, body := bd, defers := D }
  let J : HA → σ → World → Prop := fun x s w' => ∃ L, Inv s L ∧ St F W w' (.obj l (rec_ .ready) :: (.both (.obj D (.deferred (some []))) x) :: L)
  have hJy : ∀ x s vs s' w, step s vs s' → J x s w → Yld P l vs w fun v w' => v = .bool true ∧ J x s' w' := by
    rintro xx s vs s' w2 hst ⟨L, hI, T⟩
    have hl := T.ok (i := 0) rfl
    have hy := run_yield (P := P) (args := vs.toArray) hl (by simpa using hlen s vs s' hst)
    refine ⟨fn, _, sg, bd, hy, roundIn_of_wpIn (F := Fence.wide) trivial ?_⟩
    have hrep : Rep N [] (updL e (ps.toList.zip vs)) { tmps := (ps.zip vs.toArray).foldl (fun t (p, v) => t.setIfInBounds p v) a.tmps, defers := [] } := by
      have h1 := Rep.updL (ps.toList.zip vs) (a := { tmps := a.tmps, defers := [] }) ⟨rfl, hr.size, hr.get⟩ (List.all_eq_true.2 fun p hp => List.all_eq_true.1 hkc.2 p.1 (List.of_mem_zip hp).1)
      have h2 : (ps.zip vs.toArray).foldl (fun t (p, v) => t.setIfInBounds p v) a.tmps = (ps.toList.zip vs).foldl (fun t (p, v) => t.setIfInBounds p v) a.tmps := by
        rw [← Array.foldl_toList]; simp
      rw [h2]
      exact h1
    refine wpIn_mono (hsg _ _ s vs s' w2 L hst hI T hkc.1.1 [] _ hrep (some l)) ?_
    rintro x a1 w3 ⟨e1, hr1, hq⟩
    cases x <;> first | exact hq.elim | skip
    obtain ⟨L1, hM, T1⟩ := hq
    have hl1 := T1.ok (i := 0) rfl
    refine ⟨_, run_beginRound hl1 rfl, ?_⟩
    have T2 : St F W (w3.putObj l (rec_ .busy)) (.obj l (rec_ .busy) :: (.both (.obj D (.deferred (some []))) xx) :: L1) := T1.putObj (i := 0) rfl rfl
    refine wpIn_mono (hbd _ _ s s' e1 _ L1 hM T2 hkc.1.2 [] a1 hr1 (some l)) ?_
    rintro x a2 w4 ⟨e2, hr2, hq⟩
    cases x <;> first | exact hq.elim | skip
    obtain ⟨L2, hI2, T3⟩ := hq
    have hl3 := T3.ok (i := 0) rfl
    exact ⟨_, _, run_endRound none hl3, _, rfl, rfl, L2, hI2, T3.putObj (i := 0) rfl rfl⟩
  have hupd : ∀ x x' s w w', J x s w → Fr x.own w w' → x'.ok w' → (∀ g, x'.own g → x.own g ∨ w.heap.size ≤ g) → J x' s w' := by
    rintro x x' s w w' ⟨L, hI, T⟩ hF hx' hown
    refine ⟨L, hI, ?_⟩
    have hb := T.ok (i := 1) rfl
    refine T.set (i := 1) (F' := x.own) rfl rfl hF (fun g hg => .inl (.inr hg)) ⟨?_, hx', fun g hg hg' => ?_⟩ (fun g hg => hg.elim (fun h => .inl (.inl h)) (fun h => (hown g h).imp .inr id))
    · have hlt := (HA.obj D (.deferred (some []))).lt w hb.1 D rfl
      exact (hF.block D hlt (hb.2.2 D rfl)).trans hb.1
    · rcases hown g hg' with h | h
      · exact hb.2.2 g hg h
      · have := (HA.obj D (.deferred (some []))).lt w hb.1 g hg
        omega
  have hfn := hit l J W1 hupd (fun x s w ⟨L, hI, T⟩ => ⟨(T.ok (i := 1) rfl).2.1, L, hI, _, _, T⟩) ⟨L0, h0, S2.as_ (i := 1) (h' := .both (.obj D (.deferred (some []))) .no) rfl rfl (fun h => ⟨h, trivial, fun _ _ h => h⟩) (fun g hg => hg.elim id (fun h => h.elim))⟩ hJy
  refine ⟨l, [mark D], W1, { target := .fn (.func gf) lb.toArray, args := #[.func (.yield l) #[] #[]] }, W1, gf, #[.func (.yield l) #[] #[]] ++ lb.toArray, W1, hent, ?_, fun _ _ => trivial, ?_, fun h => (by cases h), ?_⟩
  · have h1 : ev e (.const (.func (.yield l) #[] #[])) = .func (.yield l) #[] #[] := rfl
    simp [resolve, hr.eval, hg, h1, Deferred.ofValue]
  · simp [invoke, go_sem, eg]
  · refine (callsIn_wide (n := 0)).2 ?_
    have h2 := hfn.2
    rw [show (Value.func (.yield l) #[] #[] :: lb).toArray = #[.func (.yield l) #[] #[]] ++ lb.toArray by simp] at h2
    refine h2.mono ?_
    rintro en w' ⟨v, rfl, xx, s, hf, L, hI, T0⟩
    have T := T0.as_ (i := 1) (h' := .obj D (.deferred (some []))) rfl rfl (fun h => h.1) (fun g hg => .inl hg)
    have hl := T.ok (i := 0) rfl
    refine ⟨none, _, run_endLoop hl (by simp), rfl, D, ⟨?_, hr.size, hr.get⟩, hK l D _ s _ L hf hI (T.putObj (i := 0) rfl rfl)⟩
    show [mark D] ++ a.defers = [mark D]
    rw [hr.defers]; rfl
end
end Go.Proofs.Yteihfmifelcidaa
