/- zones.sides.add; maps.All over a map from pairs of whole numbers: contracts. -/
import Derived.Test.YteihfmifelcidaaZJ
import Derived.Test.YteihfmifelcidaaZH
import Derived.Test.YteihfmifelcidaaZI
import Derived.Test.YteihfmifelcidaaZF
import Derived.Test.YteihfmifelcidaaZC
import Derived.Laws.StructEq
import Derived.Test.YteihfmifelcidaaZG
namespace Go.Proofs.Yteihfmifelcidaa
open Go.RowKit
set_option linter.unusedVariables false
set_option linter.unusedSimpArgs false
set_option maxRecDepth 100000

/-- a map counts a list's pairs -/
def CntM (ps : List (KP × Int)) (adds : List (Int × Int)) : Prop := (ps.map (·.1)).Nodup ∧ ∀ p, p ∈ ps ↔ p.1 ∈ adds ∧ p.2 = (adds.count p.1 : Nat)
theorem CntM.start : CntM [] [] := ⟨by simp, by simp⟩
theorem CntM.look {ps : List (KP × Int)} {adds : List (Int × Int)} (h : CntM ps adds) (k : KP) : (lookA ps k).getD 0 = (adds.count k : Nat) := by
  cases hl : lookA ps k with
  | some v => exact ((h.2 _).1 ((lookA_some h.1).1 hl)).2
  | none =>
    have : k ∉ adds := fun hk => lookA_none.1 hl (List.mem_map.2 ⟨(k, _), (h.2 (k, (adds.count k : Nat))).2 ⟨hk, rfl⟩, rfl⟩)
    rw [List.count_eq_zero_of_not_mem this]; rfl
theorem CntM.step {ps : List (KP × Int)} {adds : List (Int × Int)} (h : CntM ps adds) (k : KP) : CntM (updA (entA ps k) k ((adds.count k : Nat) + 1)) (adds ++ [k]) := by
  refine ⟨updA_keys (entA_keys h.1), fun p => ?_⟩
  rw [mem_updE h.1, List.mem_append, List.mem_singleton, List.count_append, h.2]
  obtain ⟨q, v⟩ := p
  dsimp only
  by_cases e : q = k
  · subst e
    simp only [ne_eq, not_true_eq_false, false_and, or_false, Prod.mk.injEq, true_and, or_true, List.count_singleton_self]
    push_cast
    rfl
  · have : [k].count q = 0 := List.count_eq_zero_of_not_mem (fun h => e (List.mem_singleton.1 h))
    simp only [Prod.mk.injEq, e, false_and, false_or, ne_eq, not_false_eq_true, true_and, or_false, this, Nat.add_zero]
theorem CntM.len {ps : List (KP × Int)} {adds : List (Int × Int)} (h : CntM ps adds) : ps.length ≤ adds.length := by
  have := List.Nodup.length_le_of_subset h.1 (l₂ := adds) (fun k hk => by
    obtain ⟨p, hp, rfl⟩ := List.mem_map.1 hk
    exact ((h.2 p).1 hp).1)
  simpa using this
section
variable {W : World} {b : Nat} {ps : List (KP × Int)} {adds : List (Int × Int)}
set_option maxHeartbeats 1000000 in
theorem sadd_E (x y : Int) (hlen : adds.length ≤ 4194304) (hC : CntM ps adds) (hM : MpP W b ps) : Fn Try.prog 59 [.map (some b), .int .i64 x, .int .i64 y] W
    (fun v w' => v = .tuple #[] ∧ ∃ ps', MpP w' b ps' ∧ CntM ps' (adds ++ addP x y) ∧ Fr (fun g => g = b) W w') := by
  have S := St.start1 W (.mapP b ps) hM
  by_cases hx : x = 0
  · refine Fn.mono (R := fun v w' => v = .tuple #[] ∧ MpP w' b ps ∧ Fr (fun g => g = b) W w') ?_ (fun v w' ⟨h1, h2, h3⟩ => ⟨h1, ps, h2, by unfold addP; rw [if_neg (fun h => h.1 hx), List.append_nil]; exact hC, h3⟩)
    refine Fn_enter Try.func59 rfl Try.results59 Try.ntmps59 (by kernel_rfl) (by kernel_rfl) ?_
    repeat refine cw_seq ?_
    refine cw_region ?_
    refine rw_v (op_pure rfl) ?_
    refine rw_v (op_b (b := false) rfl (bne_eq_false_iff_eq.2 (by omega))) ?_
    refine rw_v (op_pure rfl) ?_
    first | refine rw_off rfl ?_ | (refine rw_on rfl ?_; refine rw_v (op_pure rfl) ?_)
    refine rw_off rfl ?_
    iterate 2 refine rw_v (op_pure rfl) ?_
    first | refine rw_off rfl ?_ | (refine rw_on rfl ?_; refine rw_v (op_pure rfl) ?_)
    first | refine rw_off rfl ?_ | (refine rw_on rfl ?_; refine rw_v (op_pure rfl) ?_)
    refine rw_off rfl ?_
    refine rw_v (op_pure rfl) ?_
    first | refine rw_end ?_ | (refine rw_nil ?_; show CW _ _ _ _ _ _) | refine rw_nil ?_
    repeat refine cw_seq ?_
    refine cw_false rfl ?_
    repeat refine cw_seq ?_
    refine cw_skip ?_
    try show CW _ _ _ _ _ _
    exact res0n ⟨rfl, S.ok (i := 0) rfl, S.fr⟩
  · by_cases hy : y = 0
    · refine Fn.mono (R := fun v w' => v = .tuple #[] ∧ MpP w' b ps ∧ Fr (fun g => g = b) W w') ?_ (fun v w' ⟨h1, h2, h3⟩ => ⟨h1, ps, h2, by unfold addP; rw [if_neg (fun h => h.2.1 hy), List.append_nil]; exact hC, h3⟩)
      refine Fn_enter Try.func59 rfl Try.results59 Try.ntmps59 (by kernel_rfl) (by kernel_rfl) ?_
      repeat refine cw_seq ?_
      refine cw_region ?_
      refine rw_v (op_pure rfl) ?_
      refine rw_v (op_b (b := true) rfl (bne_iff_ne.2 (by omega))) ?_
      refine rw_v (op_pure rfl) ?_
      first | refine rw_off rfl ?_ | (refine rw_on rfl ?_; refine rw_v (op_pure rfl) ?_)
      first | refine rw_off rfl ?_ | (refine rw_on rfl ?_; refine rw_v (op_b (b := false) rfl (bne_eq_false_iff_eq.2 (by omega))) ?_)
      iterate 2 refine rw_v (op_pure rfl) ?_
      first | refine rw_off rfl ?_ | (refine rw_on rfl ?_; refine rw_v (op_pure rfl) ?_)
      first | refine rw_off rfl ?_ | (refine rw_on rfl ?_; refine rw_v (op_pure rfl) ?_)
      refine rw_off rfl ?_
      refine rw_v (op_pure rfl) ?_
      first | refine rw_end ?_ | (refine rw_nil ?_; show CW _ _ _ _ _ _) | refine rw_nil ?_
      repeat refine cw_seq ?_
      refine cw_false rfl ?_
      repeat refine cw_seq ?_
      refine cw_skip ?_
      try show CW _ _ _ _ _ _
      exact res0n ⟨rfl, S.ok (i := 0) rfl, S.fr⟩
    · by_cases hxy : x = y
      · refine Fn.mono (R := fun v w' => v = .tuple #[] ∧ MpP w' b ps ∧ Fr (fun g => g = b) W w') ?_ (fun v w' ⟨h1, h2, h3⟩ => ⟨h1, ps, h2, by unfold addP; rw [if_neg (fun h => h.2.2 hxy), List.append_nil]; exact hC, h3⟩)
        refine Fn_enter Try.func59 rfl Try.results59 Try.ntmps59 (by kernel_rfl) (by kernel_rfl) ?_
        repeat refine cw_seq ?_
        refine cw_region ?_
        refine rw_v (op_pure rfl) ?_
        refine rw_v (op_b (b := true) rfl (bne_iff_ne.2 (by omega))) ?_
        refine rw_v (op_pure rfl) ?_
        first | refine rw_off rfl ?_ | (refine rw_on rfl ?_; refine rw_v (op_pure rfl) ?_)
        first | refine rw_off rfl ?_ | (refine rw_on rfl ?_; refine rw_v (op_b (b := true) rfl (bne_iff_ne.2 (by omega))) ?_)
        iterate 2 refine rw_v (op_pure rfl) ?_
        first | refine rw_off rfl ?_ | (refine rw_on rfl ?_; refine rw_v (op_pure rfl) ?_)
        first | refine rw_off rfl ?_ | (refine rw_on rfl ?_; refine rw_v (op_pure rfl) ?_)
        first | refine rw_off rfl ?_ | (refine rw_on rfl ?_; refine rw_v (op_b (b := false) rfl (bne_eq_false_iff_eq.2 (by omega))) ?_)
        refine rw_v (op_pure rfl) ?_
        first | refine rw_end ?_ | (refine rw_nil ?_; show CW _ _ _ _ _ _) | refine rw_nil ?_
        repeat refine cw_seq ?_
        refine cw_false rfl ?_
        repeat refine cw_seq ?_
        refine cw_skip ?_
        try show CW _ _ _ _ _ _
        exact res0n ⟨rfl, S.ok (i := 0) rfl, S.fr⟩
      · have hadd : addP x y = [(min x y, max x y)] := by unfold addP; rw [if_pos ⟨hx, hy, hxy⟩]
        rw [hadd]
        have hlk := hC.look (min x y, max x y)
        have hst := hC.step (min x y, max x y)
        have hcl : adds.count (min x y, max x y) ≤ adds.length := List.count_le_length
        have hkeys := hC.1
        generalize hk : adds.count (min x y, max x y) = ct at *
        refine Fn.mono (R := fun v w' => v = .tuple #[] ∧ MpP w' b (updA (entA ps (min x y, max x y)) (min x y, max x y) ((ct : Nat) + 1)) ∧ Fr (fun g => g = b) W w') ?_ (fun v w' ⟨h1, h2, h3⟩ => ⟨h1, _, h2, hst, h3⟩)
        refine Fn_enter Try.func59 rfl Try.results59 Try.ntmps59 (by kernel_rfl) (by kernel_rfl) ?_
        repeat refine cw_seq ?_
        refine cw_region ?_
        refine rw_v (op_pure rfl) ?_
        refine rw_v (op_b (b := true) rfl (bne_iff_ne.2 (by omega))) ?_
        refine rw_v (op_pure rfl) ?_
        first | refine rw_off rfl ?_ | (refine rw_on rfl ?_; refine rw_v (op_pure rfl) ?_)
        first | refine rw_off rfl ?_ | (refine rw_on rfl ?_; refine rw_v (op_b (b := true) rfl (bne_iff_ne.2 (by omega))) ?_)
        iterate 2 refine rw_v (op_pure rfl) ?_
        first | refine rw_off rfl ?_ | (refine rw_on rfl ?_; refine rw_v (op_pure rfl) ?_)
        first | refine rw_off rfl ?_ | (refine rw_on rfl ?_; refine rw_v (op_pure rfl) ?_)
        first | refine rw_off rfl ?_ | (refine rw_on rfl ?_; refine rw_v (op_b (b := true) rfl (bne_iff_ne.2 (by omega))) ?_)
        refine rw_v (op_pure rfl) ?_
        first | refine rw_end ?_ | (refine rw_nil ?_; show CW _ _ _ _ _ _) | refine rw_nil ?_
        repeat refine cw_seq ?_
        refine cw_true rfl ?_
        repeat refine cw_seq ?_
        refine cw_tri (C := (CMe (fun g => g = b) W [.mapP b ps] 0 b ps (min x y, max x y))) [10] [0, 1, 2, 3, 4, 5, 6, 7, 8, 9, 10, 11] [12] (by kernel_rfl) (by kernel_rfl) (S.gr (Gr.drew _)) ?_
        simp only [pickI, pickL, List.drop_succ_cons, List.drop_zero]
        refine rs_v rfl (op_pure rfl) ?_
        refine rs_v rfl (op_pure rfl) ?_
        refine rs_v rfl (op_pure rfl) ?_
        refine rs_v rfl (op_pure rfl) ?_
        refine rs_v rfl (op_pure rfl) ?_
        refine rs_v rfl (op_pure rfl) ?_
        refine rs_v rfl (op_pure rfl) ?_
        refine rs_v rfl (op_buildArr Try.underlying134 Try.sizeOf2 Try.zeroValue134 rfl rfl) ?_
        refine rs_r rfl (fun τ wq hq => hq.look (k := (min x y, max x y)) hkeys rfl (fun h L1 hs => by cases hs; rfl) Try.underlying129 Try.underlying134 Try.underlying2 Try.sizeOf2 (Try.zeroValue2 _) rfl rfl) ?_
        rw [hlk]
        refine rs_v rfl (op_rng rfl (by omega)) ?_
        refine rs_special rfl rfl (fun wq hq => to_mapEntry (k := (min x y, max x y)) hq rfl (fun h => ⟨_, rfl⟩) Try.underlying129 Try.underlying134 Try.underlying2 Try.sizeOf2 (Try.zeroValue2 _) rfl rfl) ?_
        rintro v10 w10 ⟨s, L1, rfl, hL1, _⟩
        refine rs_v rfl (op_pure rfl) ?_
        refine rs_nil ?_
        rintro wz ⟨s2, L2, e2, h2, S⟩
        cases e2
        obtain rfl := Option.some.inj h2
        refine rw_entryStore (i := 0) S rfl rfl rfl rfl rfl ?_
        intro w12 S
        first | refine rw_end ?_ | (refine rw_nil ?_; show CW _ _ _ _ _ _) | refine rw_nil ?_
        exact res0n ⟨rfl, S.ok (i := 0) rfl, S.fr⟩
/-- maps.All: the iterator -/
theorem mall_E : Fn Try.prog 60 [.map (some b)] W
    (fun v w' => ∃ q, v = .func (.func 92) (([] : List Value).toArray) [.pointer (some ⟨q, 0, none⟩)].toArray ∧ Blk w' q 129 [.map (some b)] ∧ W.heap.size ≤ q ∧ Gr W w') := by
  have S := St.start W
  refine Fn_enter Try.func60 rfl Try.results60 Try.ntmps60 (by kernel_rfl) (by kernel_rfl) ?_
  repeat refine cw_seq ?_
  refine cw_region ?_
  refine rw_newB (op_box rfl) S ?_
  intro b_bx w2_ g2_ S
  refine rw_v (op_pure rfl) ?_
  first | refine rw_end ?_ | (refine rw_nil ?_; show CW _ _ _ _ _ _) | refine rw_nil ?_
  repeat refine cw_seq ?_
  refine cw_region ?_
  iterate 2 refine rw_v (op_pure rfl) ?_
  first | refine rw_end ?_ | (refine rw_nil ?_; show CW _ _ _ _ _ _) | refine rw_nil ?_
  repeat refine cw_seq ?_
  refine cw_ret ?_
  repeat first | refine ret_then ?_ | refine ret_inb ?_
  exact res1 rfl ⟨b_bx, rfl, S.blk (i := 0) rfl, (S.sep.1.2 _ rfl).resolve_left (fun h => h), S.out⟩
theorem nextX {P : Program} (w : World) {r b clock : Nat} {seen : Array Nat} {es : Array MapEntry} {ps vs : List (KP × Int)} (hr : w.heap[r]? = some (.mapIter (some b) clock seen clock)) (hb : w.heap[b]? = some (.map es clock)) (hm : MapsTo es clock ps) (hc : Came es ps seen vs) :
    (vs.Perm ps ∧ ∀ ty, (Instr.next (.pointer (some ⟨r, 0, none⟩)) false ty).run P w = .ok (.tuple #[.bool false]) w) ∨
    ∃ (p : KP × Int) (e1 : MapEntry) (w1 : World), p ∈ ps ∧ e1 ∈ es.toList ∧ kv e1 = encE p ∧ Came es ps (seen.push e1.born) (vs ++ [p]) ∧ vs.length < ps.length ∧ Fr (fun g => g = r) w w1 ∧ w1.heap[r]? = some (.mapIter (some b) clock (seen.push e1.born) clock) ∧ (b ≠ r → w1.heap[b]? = some (.map es clock)) ∧
      ∀ ty, (Instr.next (.pointer (some ⟨r, 0, none⟩)) false ty).run P w = .ok (.tuple #[.bool true, keyV p.1, .int .i64 p.2]) w1 := by
  rcases run_next_at (P := P) w 0 r b clock clock seen es clock hr hb hm.born (Nat.le_refl _) with ⟨h0, hrun⟩ | ⟨e1, he1, w1, hw1, hrun⟩
  · refine .inl ⟨hc.all hm fun e1 he1 => ?_, fun ty => hrun⟩
    by_cases h1 : seen.contains e1.born = true
    · exact h1
    · exfalso
      have h2 : leftOf es seen = #[] := Array.eq_empty_of_size_eq_zero h0
      have h3 : e1 ∈ leftOf es seen := by
        unfold leftOf
        rw [Array.mem_filter]
        exact ⟨Array.mem_toList_iff.1 he1, by simpa using h1⟩
      rw [h2] at h3
      simp at h3
  · have he2 : e1 ∈ es.toList ∧ seen.contains e1.born = false := by
      unfold leftOf at he1
      rw [Array.mem_toList_iff, Array.mem_filter] at he1
      exact ⟨Array.mem_toList_iff.2 he1.1, by simpa using he1.2⟩
    obtain ⟨p, hp, hkv, hc2⟩ := hc.step hm he2.1 he2.2
    have hk1 : e1.key = keyV p.1 := congrArg Prod.fst hkv
    have hk2 : e1.val = .int .i64 p.2 := congrArg Prod.snd hkv
    have hlen := hc2.len hm
    rw [List.length_append] at hlen
    have hrl := heap_lt hr
    have hw : w1.heap = w.heap := by rcases hw1 with rfl | rfl <;> rfl
    rw [hk1, hk2] at hrun
    refine .inr ⟨p, e1, _, hp, he2.1, hkv, hc2, by simp at hlen; omega, ?_, ?_, fun hne => ?_, fun ty => hrun⟩
    · refine ⟨by rcases hw1 with rfl | rfl <;> rfl, by rcases hw1 with rfl | rfl <;> rfl, by rcases hw1 with rfl | rfl <;> rfl, by simp [ChangeMaps.setBlock, hw], fun g hg hn => ?_⟩
      simp only [ChangeMaps.setBlock, hw, Array.getElem?_setIfInBounds]
      rw [if_neg (fun e => hn e.symm)]
    · simp [ChangeMaps.setBlock, hw, hrl]
    · simp only [ChangeMaps.setBlock, hw, Array.getElem?_setIfInBounds]
      rw [if_neg (fun e => hne e.symm)]
      exact hb
theorem op_entryX {P : Program} {e : Nat → Value} {w : World} {d : Option Tmp} {ty : TypeId} {pn : String} {af : Array Edge} {r b clock : Nat} {seen : Array Nat} {es : Array MapEntry} {e1 : MapEntry} {p : KP × Int} {x : Operand} (hr : w.heap[r]? = some (.mapIter (some b) clock (seen.push e1.born) clock)) (hb : w.heap[b]? = some (.map es clock)) (hm : (es.toList.map (·.born)).Nodup) (he : e1 ∈ es.toList) (hk : kv e1 = encE p) (hx : ev e x = .pointer (some ⟨r, 0, none⟩)) :
    OpR P e ⟨d, .entry x, ty, pn, af, none⟩ w (.tuple #[keyV p.1, .int .i64 p.2]) := by
  have hk1 : e1.key = keyV p.1 := congrArg Prod.fst hk
  have hk2 : e1.val = .int .i64 p.2 := congrArg Prod.snd hk
  have := run_entry_at (P := P) w r b clock seen es clock e1 hr hb he hm
  simp [OpR, execOp, hx, this, hk1, hk2]
theorem op_nextX {P : Program} {e : Nat → Value} {w w' : World} {d : Option Tmp} {ty : TypeId} {pn : String} {af : Array Edge} {r : Nat} {x : Operand} {v : Value} (hrun : ∀ ty, (Instr.next (.pointer (some ⟨r, 0, none⟩)) false ty).run P w = .ok v w') (hx : ev e x = .pointer (some ⟨r, 0, none⟩)) :
    (execOp (ev e) ⟨d, .next x false, ty, pn, af, none⟩).run P w = .ok (.value v) w' := by simp [execOp, hx, hrun]
theorem rw_rangeX {P : Program} {ops : Array Oper} {Q : (Nat → Value) → World → Prop} {e : Nat → Value} {w : World} {rest : List Oper} {d : Option Tmp} {ty : TypeId} {pn : String} {af : Array Edge} {t kt et : TypeId} {x : Operand} {b c : Nat} {es : Array MapEntry} (hu : P.underlying t = some (.map kt et)) (hx : ev e x = .map (some b)) (hb : w.heap[b]? = some (.map es c))
    (hr : RW P ops Q rest (updO e d (.pointer (some ⟨w.heap.size, 0, none⟩))) (w.alloc (.mapIter (some b) c #[] c))) : RW P ops Q (⟨d, .range t x, ty, pn, af, none⟩ :: rest) e w := by
  refine rw_w (v := .pointer (some ⟨w.heap.size, 0, none⟩)) (w' := w.alloc (.mapIter (some b) c #[] c)) ?_ hr
  simp [execOp, hx, Instr.range, run_underlying hu, run_getObj_map hb, go_sem]
set_option maxHeartbeats 1000000 in
theorem mall1_E {l q clock : Nat} {es : Array MapEntry} (J : HA → List (KP × Int) → World → Prop) (hm : MapsTo es clock ps)
    (hupd : ∀ x x' s w w', J x s w → Fr x.own w w' → x'.ok w' → (∀ g, x'.own g → x.own g ∨ w.heap.size ≤ g) → J x' s w') (hrd : ∀ x s w, J x s w → x.ok w ∧ Blk w q 129 [.map (some b)] ∧ w.heap[b]? = some (.map es clock))
    (hy : ∀ x vs p w, vs.length < ps.length → J x vs w → Yld Try.prog l [keyV p.1, .int .i64 p.2] w (fun v w' => v = .bool true ∧ J x (vs ++ [p]) w')) (h0 : J .no [] W) :
    Fn Try.prog 92 ([.func (.yield l) #[] #[]] ++ [.pointer (some ⟨q, 0, none⟩)]) W (fun _ w' => ∃ x vs, vs.Perm ps ∧ J x vs w') := by
  have hgr : ∀ x s w w', J x s w → Gr w w' → J x s w' := fun x s w w' hJ g => hupd x x s w w' hJ (Fr.of_gr g) (x.st w w' (fun b hb => g.block b (x.lt w (hrd x s w hJ).1 b hb)) g.size (hrd x s w hJ).1) (fun g hg => .inl hg)
  have hB0 := (hrd _ _ _ h0).2.1
  have S := St.start W
  refine Fn_enter Try.func92 rfl Try.results92 Try.ntmps92 (by kernel_rfl) (by kernel_rfl) ?_
  repeat refine cw_seq ?_
  refine cw_region ?_
  refine rw_r (op_loadB Try.underlying129 rfl rfl (hB0.gr S.out) rfl) ?_
  have hm0 := (hrd _ _ _ h0).2.2
  refine rw_rangeX Try.underlying129 rfl hm0 ?_
  first | refine rw_end ?_ | (refine rw_nil ?_; show CW _ _ _ _ _ _) | refine rw_nil ?_
  repeat refine cw_seq ?_
  refine cw_block ?_
  repeat refine cw_seq ?_
  have hne : b ≠ W.heap.size := by have := heap_lt hm0; omega
  have hJ1 : J (.obj W.heap.size (.mapIter (some b) clock #[] clock)) [] (W.alloc (.mapIter (some b) clock #[] clock)) := hupd _ _ _ _ _ h0 (Fr.of_gr (Gr.alloc W _)) (heap_alloc_new W _) (fun g hg => .inr (by have : g = W.heap.size := hg; omega))
  refine cw_loop (fun m e w => ∃ (vs : List (KP × Int)) (seen : Array Nat), m + vs.length = ps.length ∧ SL e [(0, .func (.yield l) #[] #[]), (1, .pointer (some ⟨q, 0, none⟩)), (6, .pointer (some ⟨W.heap.size, 0, none⟩))] ∧ Came es ps seen vs ∧ J (.obj W.heap.size (.mapIter (some b) clock seen clock)) vs w) ps.length
    ⟨[], #[], by simp, ⟨rfl, rfl, rfl, trivial⟩, ⟨[], by simp, rfl, by simp, by simp⟩, hJ1⟩ ?_
  clear S hB0 hm0 h0 hJ1
  generalize W.heap.size = r at *
  rintro m e w ⟨vs, seen, hk, hsl, hC, hJ⟩
  rw [hsl.fold]
  obtain ⟨hr0, _, hb0⟩ := hrd _ _ w hJ
  rcases nextX (P := Try.prog) w hr0 hb0 hm hC with ⟨hperm, hrun⟩ | ⟨p, e1, w1, hp, he1, hkv, hC1, hlt, hF1, hr1, hb1, hrun⟩
  · skip
    have G := Gr.refl w
    have S := St.start w
    repeat refine cw_seq ?_
    refine cw_region ?_
    refine rw_w (op_nextX hrun rfl) ?_
    refine rw_v (op_pure rfl) ?_
    first | refine rw_end ?_ | (refine rw_nil ?_; show CW _ _ _ _ _ _) | refine rw_nil ?_
    repeat refine cw_seq ?_
    refine cw_false rfl ?_
    repeat refine cw_seq ?_
    refine cw_exit ?_
    repeat first | refine exit_then ?_ | refine exit_inb ?_
    exact res0n ⟨_, vs, hperm, hgr _ _ _ _ hJ S.out⟩
  · have hJ1 : J (.obj r (.mapIter (some b) clock (seen.push e1.born) clock)) vs w1 := hupd _ _ _ _ _ hJ hF1 hr1 (fun g hg => .inl hg)
    have hb1' := hb1 hne
    have hyk := fun w' (g : Gr w1 w') => hy _ _ p w' hlt (hgr _ _ _ _ hJ1 g)
    obtain ⟨pk, pv⟩ := p
    obtain ⟨ka, kb⟩ := pk
    have hen := fun e d ty pn af x hx => op_entryX (P := Try.prog) (e := e) (d := d) (ty := ty) (pn := pn) (af := af) (x := x) hr1 hb1' hm.nodup he1 hkv hx
    dsimp only [keyV] at hrun hen hyk
    clear hupd hrd hgr hy hJ1 hF1 hr1 hb1
    have G := Gr.refl w1
    have S := St.start w1
    repeat refine cw_seq ?_
    refine cw_region ?_
    refine rw_w (op_nextX hrun rfl) ?_
    refine rw_v (op_pure rfl) ?_
    first | refine rw_end ?_ | (refine rw_nil ?_; show CW _ _ _ _ _ _) | refine rw_nil ?_
    repeat refine cw_seq ?_
    refine cw_true rfl ?_
    repeat refine cw_seq ?_
    refine cw_skip ?_
    try show CW _ _ _ _ _ _
    repeat refine cw_seq ?_
    refine cw_block ?_
    repeat refine cw_seq ?_
    refine cw_region ?_
    refine rw_r (hen _ _ _ _ _ _ rfl) ?_
    iterate 2 refine rw_v (op_pure rfl) ?_
    refine rw_newB (op_alloc Try.zeroValue134 rfl) S ?_
    intro b_kb w2_ g2_ S
    refine rw_storeSA (i := 0) S rfl (Try.sizeOf134 _) rfl rfl rfl rfl rfl rfl ?_
    intro w3_ S
    refine rw_v (op_pure rfl) ?_
    first | refine rw_end ?_ | (refine rw_nil ?_; show CW _ _ _ _ _ _) | refine rw_nil ?_
    repeat refine cw_seq ?_
    refine cw_region ?_
    refine rw_v (op_pure rfl) ?_
    refine rw_r (op_loadAB Try.underlying134 rfl (Try.sizeOf134 _) rfl (S.blk (i := 0) rfl) rfl rfl) ?_
    refine rw_v (op_pure rfl) ?_
    refine rw_yield rfl rfl (hyk _ S.out) ?_
    rintro _ w2 ⟨rfl, hJ2⟩
    refine rw_v (op_pure rfl) ?_
    first | refine rw_end ?_ | (refine rw_nil ?_; show CW _ _ _ _ _ _) | refine rw_nil ?_
    repeat refine cw_seq ?_
    refine cw_false rfl ?_
    repeat refine cw_seq ?_
    refine cw_skip ?_
    try show CW _ _ _ _ _ _
    exact ⟨m - 1, by omega, vs ++ [((ka, kb), pv)], seen.push e1.born, by rw [List.length_append]; simp; omega, ⟨rfl, rfl, rfl, trivial⟩, hC1, hJ2⟩
end
end Go.Proofs.Yteihfmifelcidaa
/- zones.Borders: its contract. -/
namespace Go.Proofs.Yteihfmifelcidaa
open Go.RowKit
set_option linter.unusedVariables false
set_option linter.unusedSimpArgs false
set_option maxRecDepth 100000

def prOf (p : KP × Int) : Pr := ⟨p.1.1, p.1.2, p.2⟩
theorem bord_of {gw n : Nat} {L : List Int} {ps vs : List (KP × Int)} {l : List Pr} (hC : CntM ps (addsN gw L n)) (hv : vs.Perm ps) (hp : l.Perm (vs.map prOf)) (hs : l.Pairwise fun a b => ¬ cfP b a < 0) : l = refBord gw L n := by
  have h1 : l.Perm (ps.map prOf) := hp.trans (hv.map prOf)
  refine bord_sorted ?_ (fun p => ?_) (hs.imp fun h => by rwa [cfP_lt] at h)
  · have h2 := h1.map fun p : Pr => (p.a, p.b)
    rw [List.map_map] at h2
    have e : ((fun p : Pr => (p.a, p.b)) ∘ prOf) = fun p : KP × Int => p.1 := rfl
    rw [e] at h2
    exact h2.nodup_iff.2 hC.1
  · rw [h1.mem_iff, List.mem_map]
    constructor
    · rintro ⟨q, hq, rfl⟩
      exact (hC.2 q).1 hq
    · rintro ⟨h2, h3⟩
      exact ⟨((p.a, p.b), p.c), (hC.2 _).2 ⟨h2, h3⟩, rfl⟩
theorem addsN_succ {gw i : Nat} {L : List Int} : addsN gw L (i + 1) = (addsN gw L i ++ if 0 < i % gw then addP (L.getD i 0) (L.getD (i - 1) 0) else []) ++ if gw ≤ i then addP (L.getD i 0) (L.getD (i - gw) 0) else [] := rfl
section
variable {W : World} {A B : Option Addr} {p gw gh cap cb : Nat} {cc : Nat → Int} {bs : Nat → Nat} {Rs : Nat → Option Nat} {L : List Int}
theorem zbordNil_E {n : Nat} : Fn Try.prog 25 [.pointer none, .slice B n cb] W (RetG (.tuple #[.slice none 0 0, .int .i64 1]) W) := by
  have S := St.start W
  refine Fn_enter_rf Try.func25 rfl Try.results25 Try.ntmps25 (by kernel_rfl) (by kernel_rfl) ?_
  try show CWK _ _ _ _ _ _ _
  refine cwk_seq_r ?_
  repeat refine cw_seq ?_
  refine cw_region ?_
  iterate 2 refine rw_v (op_pure rfl) ?_
  first | refine rw_end ?_ | (refine rw_nil ?_; show CW _ _ _ _ _ _) | refine rw_nil ?_
  try show CWK _ _ _ _ _ _ _
  refine cwk_seq_r ?_
  repeat refine cw_seq ?_
  refine cw_region ?_
  iterate 2 refine rw_v (op_pure rfl) ?_
  refine rw_call rfl (zvalsNil_E) ?_
  rintro _ w1_ ⟨rfl, g1_⟩
  have S := S.gr g1_
  iterate 7 refine rw_v (op_pure rfl) ?_
  first | refine rw_end ?_ | (refine rw_nil ?_; show CW _ _ _ _ _ _) | refine rw_nil ?_
  try show CWK _ _ _ _ _ _ _
  refine cwk_seq_r ?_
  repeat refine cw_seq ?_
  refine cw_region ?_
  refine rw_v (op_pure rfl) ?_
  refine rw_v (op_b (b := true) rfl (bne_iff_ne.2 (by omega))) ?_
  first | refine rw_end ?_ | (refine rw_nil ?_; show CW _ _ _ _ _ _) | refine rw_nil ?_
  repeat refine cw_seq ?_
  refine cw_true rfl ?_
  repeat refine cw_seq ?_
  refine cw_region ?_
  iterate 3 refine rw_v (op_pure rfl) ?_
  first | refine rw_end ?_ | (refine rw_nil ?_; show CW _ _ _ _ _ _) | refine rw_nil ?_
  repeat refine cw_seq ?_
  refine cw_ret ?_
  repeat first | refine ret_then ?_ | refine ret_inb ?_
  exact res2 rfl rfl ⟨rfl, S.out⟩
theorem zbordNo_E {n : Nat} (hn : n ≠ gw * gh) (hG : GridAt W p gw gh cc A cap bs Rs) : Fn Try.prog 25 [.pointer (some ⟨p, 0, none⟩), .slice B n cb] W (RetG (.tuple #[.slice none 0 0, .int .i64 6]) W) := by
  have S := St.start W
  refine Fn_enter_rf Try.func25 rfl Try.results25 Try.ntmps25 (by kernel_rfl) (by kernel_rfl) ?_
  try show CWK _ _ _ _ _ _ _
  refine cwk_seq_r ?_
  repeat refine cw_seq ?_
  refine cw_region ?_
  iterate 2 refine rw_v (op_pure rfl) ?_
  first | refine rw_end ?_ | (refine rw_nil ?_; show CW _ _ _ _ _ _) | refine rw_nil ?_
  try show CWK _ _ _ _ _ _ _
  refine cwk_seq_r ?_
  repeat refine cw_seq ?_
  refine cw_region ?_
  iterate 2 refine rw_v (op_pure rfl) ?_
  refine rw_call rfl (zvalsNo_E hn (hG.gr S.out)) ?_
  rintro _ w1_ ⟨rfl, g1_⟩
  have S := S.gr g1_
  iterate 7 refine rw_v (op_pure rfl) ?_
  first | refine rw_end ?_ | (refine rw_nil ?_; show CW _ _ _ _ _ _) | refine rw_nil ?_
  try show CWK _ _ _ _ _ _ _
  refine cwk_seq_r ?_
  repeat refine cw_seq ?_
  refine cw_region ?_
  refine rw_v (op_pure rfl) ?_
  refine rw_v (op_b (b := true) rfl (bne_iff_ne.2 (by omega))) ?_
  first | refine rw_end ?_ | (refine rw_nil ?_; show CW _ _ _ _ _ _) | refine rw_nil ?_
  repeat refine cw_seq ?_
  refine cw_true rfl ?_
  repeat refine cw_seq ?_
  refine cw_region ?_
  iterate 3 refine rw_v (op_pure rfl) ?_
  first | refine rw_end ?_ | (refine rw_nil ?_; show CW _ _ _ _ _ _) | refine rw_nil ?_
  repeat refine cw_seq ?_
  refine cw_ret ?_
  repeat first | refine ret_then ?_ | refine ret_inb ?_
  exact res2 rfl rfl ⟨rfl, S.out⟩
set_option maxHeartbeats 4000000 in
theorem zbord_E (hL : L.length = gw * gh) (hB : Rd W B (ints L)) (hG : GridAt W p gw gh cc A cap bs Rs) :
    Fn Try.prog 25 [.pointer (some ⟨p, 0, none⟩), .slice B (gw * gh) cb] W (RetNew (fun v => .tuple #[v, .int .i64 0]) 67 3 (refBord gw L (gw * gh)).length ((refBord gw L (gw * gh)).flatMap encPr) W) := by
  have hw := hG.sw
  have hh := hG.sh
  have hm : gw * gh ≤ 1024 * 1024 := Nat.mul_le_mul hw.2 hh.2
  have hpos : 1 ≤ gw * gh := Nat.mul_le_mul hw.1 hh.1
  have sa_B : SomeA B := hB.someA (by rw [ints_len]; omega)
  have S := St.start W
  refine Fn_enter_rf Try.func25 rfl Try.results25 Try.ntmps25 (by kernel_rfl) (by kernel_rfl) ?_
  try show CWK _ _ _ _ _ _ _
  refine cwk_seq_r ?_
  repeat refine cw_seq ?_
  refine cw_region ?_
  iterate 2 refine rw_v (op_pure rfl) ?_
  first | refine rw_end ?_ | (refine rw_nil ?_; show CW _ _ _ _ _ _) | refine rw_nil ?_
  try show CWK _ _ _ _ _ _ _
  refine cwk_seq_r ?_
  repeat refine cw_seq ?_
  refine cw_region ?_
  iterate 2 refine rw_v (op_pure rfl) ?_
  refine rw_call rfl (zvals_E (hG.gr S.out)) ?_
  rintro _ w1_ ⟨A_vs, c_vs, rfl, hR_vs, hf_vs, g1_⟩
  have S := S.pushRow hR_vs hf_vs g1_
  iterate 7 refine rw_v (op_pure rfl) ?_
  first | refine rw_end ?_ | (refine rw_nil ?_; show CW _ _ _ _ _ _) | refine rw_nil ?_
  try show CWK _ _ _ _ _ _ _
  refine cwk_seq_r ?_
  repeat refine cw_seq ?_
  refine cw_region ?_
  refine rw_v (op_pure rfl) ?_
  refine rw_v (op_b (b := false) rfl (bne_eq_false_iff_eq.2 (by omega))) ?_
  first | refine rw_end ?_ | (refine rw_nil ?_; show CW _ _ _ _ _ _) | refine rw_nil ?_
  repeat refine cw_seq ?_
  refine cw_false rfl ?_
  repeat refine cw_seq ?_
  refine cw_skip ?_
  try show CW _ _ _ _ _ _
  try show CWK _ _ _ _ _ _ _
  refine cwk_seq_r ?_
  repeat refine cw_seq ?_
  refine cw_region ?_
  refine rw_makeMapP S ?_
  intro b_mp w3_ g3_ S
  refine rw_v (op_pure rfl) ?_
  first | refine rw_end ?_ | (refine rw_nil ?_; show CW _ _ _ _ _ _) | refine rw_nil ?_
  try show CWK _ _ _ _ _ _ _
  refine cwk_seq_r ?_
  repeat refine cw_seq ?_
  refine cw_region ?_
  refine rw_v (op_pure rfl) ?_
  refine rw_v (op_len Try.underlying22 rfl) ?_
  refine rw_v (op_pure rfl) ?_
  first | refine rw_end ?_ | (refine rw_nil ?_; show CW _ _ _ _ _ _) | refine rw_nil ?_
  repeat refine cw_seq ?_
  refine cw_block ?_
  repeat refine cw_seq ?_
  have S := S.sub (.cons_cons _ (.cons _ (.slnil)))
  refine cw_loop (fun m e w => ∃ (k : Nat) (ps : List (KP × Int)), k + m = gw * gh ∧ SL e [(1, .slice B (gw * gh) cb), (7, .int .i64 gw), (9, .map (some b_mp)), (26, .slice B (gw * gh) cb), (27, .int .i64 (gw * gh : Nat)), (28, .int .i64 k)] ∧
      CntM ps (addsN gw L k) ∧ St No W w [.mapP b_mp ps]) (gw * gh)
      ⟨0, [], by omega, ⟨rfl, rfl, rfl, rfl, rfl, rfl, trivial⟩, CntM.start, S⟩ ?_
  clear S
  rintro m e w ⟨k, ps, hk, hsl, hC, S⟩
  rw [hsl.fold]
  repeat refine cw_seq ?_
  refine cw_region ?_
  refine rw_v (op_pure rfl) ?_
  first | refine rw_end ?_ | (refine rw_nil ?_; show CW _ _ _ _ _ _) | refine rw_nil ?_
  repeat refine cw_seq ?_
  refine cw_cond rfl (fun hc => ?_) (fun hc => ?_)
  · try simp only [decide_eq_true_eq, decide_eq_false_iff_not, beq_iff_eq, bne_iff_ne, beq_eq_false_iff_ne, bne_eq_false_iff_eq, Bool.not_eq_true', Bool.not_eq_false', ne_eq, Decidable.not_not, Int.natCast_inj, Int.ofNat_lt, Int.ofNat_le, gt_iff_lt, ge_iff_le, Int.not_lt, Int.not_le] at hc
    have hkn : k < gw * gh := by omega
    have hget : ∀ i, i < gw * gh → (ints L)[(i : Int).toNat * 1]? = some (.int .i64 (L.getD i 0)) := fun i hi => by rw [Nat.mul_one, Int.toNat_natCast]; exact ints_get (getD_at (by omega))
    have em : (k : Int) % gw = ((k % gw : Nat) : Int) := by push_cast; rfl
    have e1 : (k : Int) - 1 = ((k - 1 : Nat) : Int) ∨ k = 0 := by omega
    have hal := addsN_len (gw := gw) (L := L) k
    have hsucc := addsN_succ (gw := gw) (L := L) (i := k)
    have hml : ∀ x y, (addP x y).length ≤ 1 := fun x y => by unfold addP; split <;> simp
    have hadd := fun (x y : Int) (ps : List (KP × Int)) (adds : List (Int × Int)) (w : World) (hl : adds.length ≤ 4194304) (hC : CntM ps adds) (hM : MpP w b_mp ps) => sadd_E (W := w) x y hl hC hM
    clear hc
    by_cases h1 : 0 < k % gw
    · have hk1 : 1 ≤ k := by have := Nat.mod_le k gw; omega
      have ek : (k : Int) - 1 = ((k - 1 : Nat) : Int) := by omega
      rw [if_pos h1] at hsucc
      have hm1 := hml (L.getD k 0) (L.getD (k - 1) 0)
      by_cases h2 : gw ≤ k
      · have eg : (k : Int) - gw = ((k - gw : Nat) : Int) := by omega
        rw [if_pos h2] at hsucc
        repeat refine cw_seq ?_
        refine cw_skip ?_
        try show CW _ _ _ _ _ _
        repeat refine cw_seq ?_
        refine cw_block ?_
        repeat refine cw_seq ?_
        refine cw_region ?_
        refine rw_v (op_pure rfl) ?_
        refine rw_v (op_idx Try.underlying22 Try.sizeOf2 rfl rfl sa_B (by omega) (by omega)) ?_
        refine rw_r (op_ldR Try.underlying2 rfl rfl (hB.gr S.out) (hget k hkn)) ?_
        iterate 2 refine rw_v (op_pure rfl) ?_
        first | refine rw_end ?_ | (refine rw_nil ?_; show CW _ _ _ _ _ _) | refine rw_nil ?_
        repeat refine cw_seq ?_
        refine cw_region ?_
        iterate 2 refine rw_v (op_pure rfl) ?_
        refine rw_v (op_rem rfl rfl (by omega) (by omega)) ?_
        rw [em]
        refine rw_v (op_b (b := true) rfl (decide_eq_true (by omega))) ?_
        first | refine rw_end ?_ | (refine rw_nil ?_; show CW _ _ _ _ _ _) | refine rw_nil ?_
        repeat refine cw_seq ?_
        refine cw_true rfl ?_
        repeat refine cw_seq ?_
        refine cw_region ?_
        iterate 4 refine rw_v (op_pure rfl) ?_
        refine rw_v (op_rng rfl (by omega)) ?_
        rw [ek]
        refine rw_v (op_idx Try.underlying22 Try.sizeOf2 rfl rfl sa_B (by omega) (by omega)) ?_
        refine rw_r (op_ldR Try.underlying2 rfl rfl (hB.gr S.out) (hget (k - 1) (by omega))) ?_
        refine rw_call rfl (hadd _ _ ps _ w (by omega) hC (S.mapP (i := 0) rfl)) ?_
        rintro _ w4_ ⟨rfl, ps1, hM1, hC1, hF1⟩
        have S := S.set (i := 0) (h' := .mapP b_mp ps1) rfl rfl hF1 (fun g h => .inl h) hM1 (fun g h => .inl h)
        first | refine rw_end ?_ | (refine rw_nil ?_; show CW _ _ _ _ _ _) | refine rw_nil ?_
        repeat refine cw_seq ?_
        refine cw_region ?_
        iterate 2 refine rw_v (op_pure rfl) ?_
        refine rw_v (op_b (b := true) rfl (decide_eq_true (by omega))) ?_
        first | refine rw_end ?_ | (refine rw_nil ?_; show CW _ _ _ _ _ _) | refine rw_nil ?_
        repeat refine cw_seq ?_
        refine cw_true rfl ?_
        repeat refine cw_seq ?_
        refine cw_region ?_
        iterate 5 refine rw_v (op_pure rfl) ?_
        refine rw_v (op_rng rfl (by omega)) ?_
        rw [eg]
        refine rw_v (op_idx Try.underlying22 Try.sizeOf2 rfl rfl sa_B (by omega) (by omega)) ?_
        refine rw_r (op_ldR Try.underlying2 rfl rfl (hB.gr S.out) (hget (k - gw) (by omega))) ?_
        refine rw_call rfl (hadd _ _ ps1 _ w4_ (by rw [List.length_append]; omega) hC1 (S.mapP (i := 0) rfl)) ?_
        rintro _ w5_ ⟨rfl, ps2, hM2, hC2, hF2⟩
        have S := S.set (i := 0) (h' := .mapP b_mp ps2) rfl rfl hF2 (fun g h => .inl h) hM2 (fun g h => .inl h)
        first | refine rw_end ?_ | (refine rw_nil ?_; show CW _ _ _ _ _ _) | refine rw_nil ?_
        repeat refine cw_seq ?_
        refine cw_region ?_
        refine rw_v (op_rng rfl (by omega)) ?_
        refine rw_v (op_pure rfl) ?_
        first | refine rw_end ?_ | (refine rw_nil ?_; show CW _ _ _ _ _ _) | refine rw_nil ?_
        exact ⟨m - 1, by omega, k + 1, ps2, by omega, ⟨rfl, rfl, rfl, rfl, rfl, ie (by omega), trivial⟩, by rw [hsucc]; exact hC2, S⟩
      · rw [if_neg h2, List.append_nil] at hsucc
        repeat refine cw_seq ?_
        refine cw_skip ?_
        try show CW _ _ _ _ _ _
        repeat refine cw_seq ?_
        refine cw_block ?_
        repeat refine cw_seq ?_
        refine cw_region ?_
        refine rw_v (op_pure rfl) ?_
        refine rw_v (op_idx Try.underlying22 Try.sizeOf2 rfl rfl sa_B (by omega) (by omega)) ?_
        refine rw_r (op_ldR Try.underlying2 rfl rfl (hB.gr S.out) (hget k hkn)) ?_
        iterate 2 refine rw_v (op_pure rfl) ?_
        first | refine rw_end ?_ | (refine rw_nil ?_; show CW _ _ _ _ _ _) | refine rw_nil ?_
        repeat refine cw_seq ?_
        refine cw_region ?_
        iterate 2 refine rw_v (op_pure rfl) ?_
        refine rw_v (op_rem rfl rfl (by omega) (by omega)) ?_
        rw [em]
        refine rw_v (op_b (b := true) rfl (decide_eq_true (by omega))) ?_
        first | refine rw_end ?_ | (refine rw_nil ?_; show CW _ _ _ _ _ _) | refine rw_nil ?_
        repeat refine cw_seq ?_
        refine cw_true rfl ?_
        repeat refine cw_seq ?_
        refine cw_region ?_
        iterate 4 refine rw_v (op_pure rfl) ?_
        refine rw_v (op_rng rfl (by omega)) ?_
        rw [ek]
        refine rw_v (op_idx Try.underlying22 Try.sizeOf2 rfl rfl sa_B (by omega) (by omega)) ?_
        refine rw_r (op_ldR Try.underlying2 rfl rfl (hB.gr S.out) (hget (k - 1) (by omega))) ?_
        refine rw_call rfl (hadd _ _ ps _ w (by omega) hC (S.mapP (i := 0) rfl)) ?_
        rintro _ w6_ ⟨rfl, ps1, hM1, hC1, hF1⟩
        have S := S.set (i := 0) (h' := .mapP b_mp ps1) rfl rfl hF1 (fun g h => .inl h) hM1 (fun g h => .inl h)
        first | refine rw_end ?_ | (refine rw_nil ?_; show CW _ _ _ _ _ _) | refine rw_nil ?_
        repeat refine cw_seq ?_
        refine cw_region ?_
        iterate 2 refine rw_v (op_pure rfl) ?_
        refine rw_v (op_b (b := false) rfl (decide_eq_false (by omega))) ?_
        first | refine rw_end ?_ | (refine rw_nil ?_; show CW _ _ _ _ _ _) | refine rw_nil ?_
        repeat refine cw_seq ?_
        refine cw_false rfl ?_
        repeat refine cw_seq ?_
        refine cw_skip ?_
        try show CW _ _ _ _ _ _
        repeat refine cw_seq ?_
        refine cw_region ?_
        refine rw_v (op_rng rfl (by omega)) ?_
        refine rw_v (op_pure rfl) ?_
        first | refine rw_end ?_ | (refine rw_nil ?_; show CW _ _ _ _ _ _) | refine rw_nil ?_
        exact ⟨m - 1, by omega, k + 1, ps1, by omega, ⟨rfl, rfl, rfl, rfl, rfl, ie (by omega), trivial⟩, by rw [hsucc]; exact hC1, S⟩
    · rw [if_neg h1, List.append_nil] at hsucc
      by_cases h2 : gw ≤ k
      · have eg : (k : Int) - gw = ((k - gw : Nat) : Int) := by omega
        rw [if_pos h2] at hsucc
        repeat refine cw_seq ?_
        refine cw_skip ?_
        try show CW _ _ _ _ _ _
        repeat refine cw_seq ?_
        refine cw_block ?_
        repeat refine cw_seq ?_
        refine cw_region ?_
        refine rw_v (op_pure rfl) ?_
        refine rw_v (op_idx Try.underlying22 Try.sizeOf2 rfl rfl sa_B (by omega) (by omega)) ?_
        refine rw_r (op_ldR Try.underlying2 rfl rfl (hB.gr S.out) (hget k hkn)) ?_
        iterate 2 refine rw_v (op_pure rfl) ?_
        first | refine rw_end ?_ | (refine rw_nil ?_; show CW _ _ _ _ _ _) | refine rw_nil ?_
        repeat refine cw_seq ?_
        refine cw_region ?_
        iterate 2 refine rw_v (op_pure rfl) ?_
        refine rw_v (op_rem rfl rfl (by omega) (by omega)) ?_
        rw [em]
        refine rw_v (op_b (b := false) rfl (decide_eq_false (by omega))) ?_
        first | refine rw_end ?_ | (refine rw_nil ?_; show CW _ _ _ _ _ _) | refine rw_nil ?_
        repeat refine cw_seq ?_
        refine cw_false rfl ?_
        repeat refine cw_seq ?_
        refine cw_skip ?_
        try show CW _ _ _ _ _ _
        repeat refine cw_seq ?_
        refine cw_region ?_
        iterate 2 refine rw_v (op_pure rfl) ?_
        refine rw_v (op_b (b := true) rfl (decide_eq_true (by omega))) ?_
        first | refine rw_end ?_ | (refine rw_nil ?_; show CW _ _ _ _ _ _) | refine rw_nil ?_
        repeat refine cw_seq ?_
        refine cw_true rfl ?_
        repeat refine cw_seq ?_
        refine cw_region ?_
        iterate 5 refine rw_v (op_pure rfl) ?_
        refine rw_v (op_rng rfl (by omega)) ?_
        rw [eg]
        refine rw_v (op_idx Try.underlying22 Try.sizeOf2 rfl rfl sa_B (by omega) (by omega)) ?_
        refine rw_r (op_ldR Try.underlying2 rfl rfl (hB.gr S.out) (hget (k - gw) (by omega))) ?_
        refine rw_call rfl (hadd _ _ ps _ w (by omega) hC (S.mapP (i := 0) rfl)) ?_
        rintro _ w7_ ⟨rfl, ps2, hM2, hC2, hF2⟩
        have S := S.set (i := 0) (h' := .mapP b_mp ps2) rfl rfl hF2 (fun g h => .inl h) hM2 (fun g h => .inl h)
        first | refine rw_end ?_ | (refine rw_nil ?_; show CW _ _ _ _ _ _) | refine rw_nil ?_
        repeat refine cw_seq ?_
        refine cw_region ?_
        refine rw_v (op_rng rfl (by omega)) ?_
        refine rw_v (op_pure rfl) ?_
        first | refine rw_end ?_ | (refine rw_nil ?_; show CW _ _ _ _ _ _) | refine rw_nil ?_
        exact ⟨m - 1, by omega, k + 1, ps2, by omega, ⟨rfl, rfl, rfl, rfl, rfl, ie (by omega), trivial⟩, by rw [hsucc]; exact hC2, S⟩
      · rw [if_neg h2, List.append_nil] at hsucc
        repeat refine cw_seq ?_
        refine cw_skip ?_
        try show CW _ _ _ _ _ _
        repeat refine cw_seq ?_
        refine cw_block ?_
        repeat refine cw_seq ?_
        refine cw_region ?_
        refine rw_v (op_pure rfl) ?_
        refine rw_v (op_idx Try.underlying22 Try.sizeOf2 rfl rfl sa_B (by omega) (by omega)) ?_
        refine rw_r (op_ldR Try.underlying2 rfl rfl (hB.gr S.out) (hget k hkn)) ?_
        iterate 2 refine rw_v (op_pure rfl) ?_
        first | refine rw_end ?_ | (refine rw_nil ?_; show CW _ _ _ _ _ _) | refine rw_nil ?_
        repeat refine cw_seq ?_
        refine cw_region ?_
        iterate 2 refine rw_v (op_pure rfl) ?_
        refine rw_v (op_rem rfl rfl (by omega) (by omega)) ?_
        rw [em]
        refine rw_v (op_b (b := false) rfl (decide_eq_false (by omega))) ?_
        first | refine rw_end ?_ | (refine rw_nil ?_; show CW _ _ _ _ _ _) | refine rw_nil ?_
        repeat refine cw_seq ?_
        refine cw_false rfl ?_
        repeat refine cw_seq ?_
        refine cw_skip ?_
        try show CW _ _ _ _ _ _
        repeat refine cw_seq ?_
        refine cw_region ?_
        iterate 2 refine rw_v (op_pure rfl) ?_
        refine rw_v (op_b (b := false) rfl (decide_eq_false (by omega))) ?_
        first | refine rw_end ?_ | (refine rw_nil ?_; show CW _ _ _ _ _ _) | refine rw_nil ?_
        repeat refine cw_seq ?_
        refine cw_false rfl ?_
        repeat refine cw_seq ?_
        refine cw_skip ?_
        try show CW _ _ _ _ _ _
        repeat refine cw_seq ?_
        refine cw_region ?_
        refine rw_v (op_rng rfl (by omega)) ?_
        refine rw_v (op_pure rfl) ?_
        first | refine rw_end ?_ | (refine rw_nil ?_; show CW _ _ _ _ _ _) | refine rw_nil ?_
        exact ⟨m - 1, by omega, k + 1, ps, by omega, ⟨rfl, rfl, rfl, rfl, rfl, ie (by omega), trivial⟩, by rw [hsucc]; exact hC, S⟩
  · try simp only [decide_eq_true_eq, decide_eq_false_iff_not, beq_iff_eq, bne_iff_ne, beq_eq_false_iff_ne, bne_eq_false_iff_eq, Bool.not_eq_true', Bool.not_eq_false', ne_eq, Decidable.not_not, Int.natCast_inj, Int.ofNat_lt, Int.ofNat_le, gt_iff_lt, ge_iff_le, Int.not_lt, Int.not_le] at hc
    obtain rfl : k = gw * gh := by omega
    have hal := addsN_len (gw := gw) (L := L) (gw * gh)
    have hpl := hC.len
    obtain ⟨es, clock, hbm, hmt⟩ := S.mapP (i := 0) rfl
    have S : St No W w [.obj b_mp (.map es clock)] := S.as_ (i := 0) (h' := .obj b_mp (.map es clock)) rfl rfl (fun _ => hbm) (fun g hg => hg)
    have S := S.pushNil 67 3
    repeat refine cw_seq ?_
    refine cw_exit ?_
    repeat first | refine exit_then ?_ | refine exit_inb ?_
    try show CWK _ _ _ _ _ _ _
    refine cwk_seq_r ?_
    repeat refine cw_seq ?_
    refine cw_region ?_
    refine rw_newB (op_alloc Try.zeroValue61 rfl) S ?_
    intro b_ou w9_ g9_ S
    first | refine rw_end ?_ | (refine rw_nil ?_; show CW _ _ _ _ _ _) | refine rw_nil ?_
    try show CWK _ _ _ _ _ _ _
    refine cwk_seq_l ?_
    try show CWK _ _ _ _ _ _ _
    refine cwk_seq_r ?_
    repeat refine cw_seq ?_
    refine cw_region ?_
    refine rw_v (op_pure rfl) ?_
    refine rw_call rfl (mall_E) ?_
    rintro _ w10_ ⟨b_bx, rfl, hBx, hFx, g10_⟩
    have S := S.push g10_ (h := .blk b_bx _ _) hBx (fun g hg => by have : g = b_bx := hg; omega)
    first | refine rw_end ?_ | (refine rw_nil ?_; show CW _ _ _ _ _ _) | refine rw_nil ?_
    try show CWK _ _ _ _ _ _ _
    refine cwk_block ?_
    refine rf_cutX (fun e => SL e [(12, .pointer (some ⟨b_ou, 0, none⟩)), (59, .func (.func 92) (([] : List Value).toArray) [.pointer (some ⟨b_bx, 0, none⟩)].toArray)]) ⟨rfl, rfl, trivial⟩ ?_
    intro e hsl
    rw [hsl.fold]
    refine rf_lawX (gf := 92) (lb := [.pointer (some ⟨b_bx, 0, none⟩)])
      (fun (vs : List (KP × Int)) L => ∃ A2 c2, L = [.blk b_bx 129 [.map (some b_mp)], .blk b_ou 61 [.slice A2 vs.length c2], .row 67 3 A2 vs.length c2 ((vs.map prOf).flatMap encPr), .obj b_mp (.map es clock)])
      (fun vs ar vs' => ∃ p : KP × Int, vs.length < ps.length ∧ ar = [keyV p.1, .int .i64 p.2] ∧ vs' = vs ++ [p]) (fun vs => vs.Perm ps) [] rfl (by kernel_rfl) (by kernel_rfl)
      (fun vs vs' e L => ∃ (p : KP × Int) (b_k : Nat) (A2 : Option Addr) (c2 : Nat), vs.length < ps.length ∧ vs' = vs ++ [p] ∧ SL e [(12, .pointer (some ⟨b_ou, 0, none⟩)), (13, .pointer (some ⟨b_k, 0, none⟩)), (14, .int .i64 p.2)] ∧ L = [.blk b_k 134 [.int .i64 p.1.1, .int .i64 p.1.2], .blk b_bx 129 [.map (some b_mp)], .blk b_ou 61 [.slice A2 vs.length c2], .row 67 3 A2 vs.length c2 ((vs.map prOf).flatMap encPr), .obj b_mp (.map es clock)])
      ⟨none, 0, rfl⟩ S (by rintro vs ar vs' ⟨p, _, rfl, _⟩; rfl) ?_ ?_ ?_ ?_
    · intro l J w1 hupd hrd h0 hy
      refine (mall1_E (ps := ps) (b := b_mp) (W := w1) (l := l) (q := b_bx) (clock := clock) (es := es) J hmt hupd (fun x s w hJ => ?_) (fun x vs p w hlt hJ => hy x vs _ _ w ⟨p, hlt, rfl, rfl⟩ hJ) h0).mono (fun _ w' ⟨x, vs, h1, h2⟩ => ⟨x, vs, h1, h2⟩)
      obtain ⟨h1, L, ⟨A2, c2, rfl⟩, o1, d1, S1⟩ := hrd x s w hJ
      exact ⟨h1, S1.blk (i := 2) rfl, S1.ok (i := 5) rfl⟩
    · rintro ob db vs ar vs' w2 L ⟨p, hlt, rfl, rfl⟩ ⟨A2, c2, rfl⟩ S
      obtain ⟨⟨ka, kb⟩, pv⟩ := p
      show CW _ _ _ _ (upd (upd _ 60 _) 61 _) _
      dsimp only [keyV]
      repeat refine cw_seq ?_
      refine cw_region ?_
      refine rw_newB (op_alloc Try.zeroValue134 rfl) S ?_
      intro b_k w12_ g12_ S
      refine rw_storeSA (i := 0) S rfl (Try.sizeOf134 _) rfl rfl rfl rfl rfl rfl ?_
      intro w13_ S
      first | refine rw_end ?_ | (refine rw_nil ?_; show CW _ _ _ _ _ _) | refine rw_nil ?_
      repeat refine cw_seq ?_
      refine cw_region ?_
      refine rw_v (op_pure rfl) ?_
      first | refine rw_end ?_ | (refine rw_nil ?_; show CW _ _ _ _ _ _) | refine rw_nil ?_
      exact ⟨_, ⟨((ka, kb), pv), b_k, A2, c2, hlt, rfl, ⟨rfl, rfl, rfl, trivial⟩, rfl⟩, S.permX ((List.Perm.swap _ _ _).trans (.cons _ (.swap _ _ _)))⟩
    · rintro ob db vs vs' e w2 L ⟨p, b_k, A2, c2, hlt, rfl, hsl2, rfl⟩ S
      rw [hsl2.fold]
      obtain ⟨⟨ka, kb⟩, pv⟩ := p
      have hvl : vs.length < 4194304 := by omega
      repeat refine cw_seq ?_
      refine cw_block ?_
      repeat refine cw_seq ?_
      refine cw_region ?_
      refine rw_r (op_loadB Try.underlying61 rfl rfl (S.blk (i := 4) rfl) rfl) ?_
      refine rw_v (op_indexAddrP Try.underlying134 Try.sizeOf2 rfl rfl (by omega) (by omega)) ?_
      refine rw_r (op_loadB Try.underlying2 rfl rfl (S.blk (i := 2) rfl) rfl) ?_
      refine rw_v (op_indexAddrP Try.underlying134 Try.sizeOf2 rfl rfl (by omega) (by omega)) ?_
      refine rw_r (op_loadB Try.underlying2 rfl rfl (S.blk (i := 2) rfl) rfl) ?_
      refine rw_v (op_pure rfl) ?_
      refine rw_v (op_build (pl := [(0, 1), (1, 1), (2, 1)]) Try.underlying67 Try.zeroValue67 (fun w => by kernel_rfl) rfl rfl) ?_
      refine rw_buildS Try.underlying61 Try.sizeOf67 Try.zeroValue67 rfl rfl rfl rfl rfl rfl S ?_
      intro A_b14 w15_ g15_ S sa_b14
      refine rw_appS (i := 6) S rfl (fun h => rfl) Try.underlying61 info_t67 rfl rfl rfl rfl (by simp) (by omega) (S.rd (i := 0) rfl) rfl (by omega) ?_
      intro A_o2 c_o2 w16_ S sa_out
      refine rw_storeS (i := 5) S rfl (Try.sizeOf61 _) rfl rfl rfl rfl rfl rfl ?_
      intro w17_ S
      first | refine rw_end ?_ | (refine rw_nil ?_; show CW _ _ _ _ _ _) | refine rw_nil ?_
      have S := S.sub (.cons _ (.cons_cons _ (.cons_cons _ (.cons _ (.cons_cons _ (.cons_cons _ (.cons_cons _ (.cons_cons _ (.slnil)))))))))
      have e1 : ((vs.map prOf).flatMap encPr) ++ encPr ⟨ka, kb, pv⟩ = ((vs ++ [((ka, kb), pv)]).map prOf).flatMap encPr := by rw [List.map_append, List.flatMap_append]; rfl
      have e2 : (vs ++ [((ka, kb), pv)]).length = vs.length + 1 := by simp
      refine ⟨_, ⟨A_o2, c_o2, rfl⟩, ?_⟩
      rw [e2, ← e1]
      exact S
    · rintro l D ob vs w2 L hperm ⟨A2, c2, rfl⟩ S
      show CW _ _ _ _ _ _
      have hvp := hperm.length_eq
      repeat refine cw_seq ?_
      refine cw_region ?_
      refine rw_r (op_loadB Try.underlying61 rfl rfl (S.blk (i := 3) rfl) rfl) ?_
      refine rw_call rfl (ssortP_E S (i := 4) rfl (by rw [List.length_map]) (by rw [List.length_map]; omega) (fun h => ⟨_, rfl⟩)) ?_
      rintro _ w18_ ⟨rfl, l', hperm2, hsort, L', hL', S⟩
      cases hL'
      first | refine rw_end ?_ | (refine rw_nil ?_; show CW _ _ _ _ _ _) | refine rw_nil ?_
      repeat refine cw_seq ?_
      refine cw_region ?_
      refine rw_r (op_loadB Try.underlying61 rfl rfl (S.blk (i := 3) rfl) rfl) ?_
      iterate 2 refine rw_v (op_pure rfl) ?_
      first | refine rw_end ?_ | (refine rw_nil ?_; show CW _ _ _ _ _ _) | refine rw_nil ?_
      repeat refine cw_seq ?_
      refine cw_ret ?_
      repeat first | refine ret_then ?_ | refine ret_inb ?_
      have hl' := bord_of hC hperm hperm2 hsort
      have hlen' : vs.length = (refBord gw L (gw * gh)).length := by have := hperm2.length_eq; rw [hl', List.length_map] at this; exact this.symm
      rw [hl', hlen'] at S
      rw [hlen']
      refine qm_ret S (i := 1) rfl rfl fun w' S' => ?_
      exact qf_ret (res2 rfl rfl (S'.retNew (i := 4) rfl))
end
end Go.Proofs.Yteihfmifelcidaa
/- The zones' example; zones.Mean; nothing in no grid: contracts. -/
namespace Go.Proofs.Yteihfmifelcidaa
open Go.RowKit
set_option linter.unusedVariables false
set_option linter.unusedSimpArgs false
set_option maxRecDepth 100000

theorem eqPair_run (a b c a' b' c' : Int) (w : World) : (binOp .eql 67 (.agg #[.int .i64 a, .int .i64 b, .int .i64 c]) (.agg #[.int .i64 a', .int .i64 b', .int .i64 c'])).run Try.prog w = .ok (.bool (decide (a = a' ∧ b = b' ∧ c = c'))) w := by
  have u3 := Try.underlying2
  have a3 := Try.isAgg2
  have z3 := Try.sizeOf2
  have hS : Try.prog.underlying 67 = some (.struct (Try.prog.fieldsOf 67)) := by kernel_rfl
  have hp : Try.prog.stoodInHeld 67 = false := by kernel_rfl
  rw [run_eql_struct, show (10000 : Nat) = 9999 + 1 from rfl, run_equalIn_agg w 9999 67 _ _ hS hp]
  simp only [Program.fieldsOf, Try.underlying67]
  go_simp
  by_cases h1 : a = a' <;> by_cases h2 : b = b' <;> by_cases h3 : c = c' <;> simp [h1, h2, h3]
theorem nePair_run (a b c a' b' c' : Int) (w : World) : (binOp .neq 67 (.agg #[.int .i64 a, .int .i64 b, .int .i64 c]) (.agg #[.int .i64 a', .int .i64 b', .int .i64 c'])).run Try.prog w = .ok (.bool (!decide (a = a' ∧ b = b' ∧ c = c'))) w := by
  have u3 := Try.underlying2
  have a3 := Try.isAgg2
  have z3 := Try.sizeOf2
  have hS : Try.prog.underlying 67 = some (.struct (Try.prog.fieldsOf 67)) := by kernel_rfl
  have hp : Try.prog.stoodInHeld 67 = false := by kernel_rfl
  rw [run_neq_struct, show (10000 : Nat) = 9999 + 1 from rfl, run_equalIn_agg w 9999 67 _ _ hS hp]
  simp only [Program.fieldsOf, Try.underlying67]
  go_simp
  by_cases h1 : a = a' <;> by_cases h2 : b = b' <;> by_cases h3 : c = c' <;> simp [h1, h2, h3]
theorem guardP_agg {P : Program} {w : World} {op : BinOp} {t : TypeId} {x y : Operand} {a b : Array Value} (h : P.eqGuardType P.depth t = false) : (eqGuard op t x y (.agg a) (.agg b)).run P w = .ok () w := by
  unfold eqGuard
  cases op <;> simp [h]
section
variable {e : Nat → Value} {dd : Option Tmp} {ty : TypeId} {ps : String} {af : Array Edge} {t' : TypeId} {x y : Operand} {a b c a' b' c' : Int}
theorem op_eqPair {r : Bool} (hx : ev e x = .agg #[.int .i64 a, .int .i64 b, .int .i64 c]) (hy : ev e y = .agg #[.int .i64 a', .int .i64 b', .int .i64 c']) (hr : decide (a = a' ∧ b = b' ∧ c = c') = r) : OpV Try.prog e ⟨dd, .binOp .eql 67 x y t', ty, ps, af, none⟩ (.bool r) := by
  intro w
  subst hr
  have hg : ∀ w, (eqGuard .eql 67 x y (.agg #[.int .i64 a, .int .i64 b, .int .i64 c]) (.agg #[.int .i64 a', .int .i64 b', .int .i64 c'])).run Try.prog w = .ok () w := fun w => guardP_agg (by kernel_rfl)
  simp [OpR, execOp, hx, hy, hg, eqPair_run]
theorem op_nePair {r : Bool} (hx : ev e x = .agg #[.int .i64 a, .int .i64 b, .int .i64 c]) (hy : ev e y = .agg #[.int .i64 a', .int .i64 b', .int .i64 c']) (hr : (!decide (a = a' ∧ b = b' ∧ c = c')) = r) : OpV Try.prog e ⟨dd, .binOp .neq 67 x y t', ty, ps, af, none⟩ (.bool r) := by
  intro w
  subst hr
  have hg : ∀ w, (eqGuard .neq 67 x y (.agg #[.int .i64 a, .int .i64 b, .int .i64 c]) (.agg #[.int .i64 a', .int .i64 b', .int .i64 c'])).run Try.prog w = .ok () w := fun w => guardP_agg (by kernel_rfl)
  simp [OpR, execOp, hx, hy, hg, nePair_run]
end
theorem may_bnd {V : List Int} (h : ∀ v ∈ V, mayB v = true) (j : Nat) : -2147483648 ≤ V.getD j 0 ∧ V.getD j 0 ≤ 2147483647 := by
  rw [List.getD_eq_getElem?_getD]
  cases hj : V[j]? with
  | none => simp
  | some v => exact (mayB_iff v).1 (h v (List.mem_of_getElem? hj))
theorem awake49_E (W : World) : Fn Try.prog 21 [] W (RetG (.bool true) W) := by
  have hG3 : gridL 3 1 (fun i => ([4, 5, 9] : List Int).getD i 0) = [4, 5, 9] := gridL_made rfl
  have hmay : ∀ v ∈ ([4, 5, 9] : List Int), mayB v = true := fun v hv => by
    simp only [List.mem_cons, List.not_mem_nil, or_false] at hv
    rcases hv with rfl | rfl | rfl <;> rfl
  have e1 : refLab [2, 1, 2] (3 * 1) = [1, 2] := by decide
  have e2 : ([1, 2].map fun a => znN [4, 5, 9] [2, 1, 2] a (3 * 1)) = [⟨1, 1, 5, 5, 5, 1⟩, ⟨2, 2, 13, 4, 9, 0⟩] := by decide
  have e3 : refBord 3 [2, 1, 2] (3 * 1) = [⟨1, 2, 2⟩] := by decide
  have hzo : ∀ (W : World) (p : Nat) (A B : Option Addr) (cap cb : Nat) (bs : Nat → Nat) (Rs : Nat → Option Nat) (hB : Rd W B (ints [2, 1, 2])) (hG : GridAt W p 3 1 (fun i => ([4, 5, 9] : List Int).getD i 0) A cap bs Rs),
      Fn Try.prog 22 [.pointer (some ⟨p, 0, none⟩), .slice B 3 cb] W (RetNew (fun v => .tuple #[v, .int .i64 0]) 59 7 2 [.int .i64 1, .int .i64 1, .int .i64 5, .int .i64 5, .int .i64 5, .int .i64 1, .int .i64 0, .int .i64 2, .int .i64 2, .int .i64 13, .int .i64 4, .int .i64 9, .int .i64 0, .int .i64 0] W) := fun W p A B cap cb bs Rs hB hG => by
    have := zof_E (W := W) (cb := cb) (by rw [hG3]; exact may_bnd hmay) rfl hB hG
    rw [hG3, e1, e2] at this
    exact this
  have hzb : ∀ (W : World) (p : Nat) (A B : Option Addr) (cap cb : Nat) (bs : Nat → Nat) (Rs : Nat → Option Nat) (hB : Rd W B (ints [2, 1, 2])) (hG : GridAt W p 3 1 (fun i => ([4, 5, 9] : List Int).getD i 0) A cap bs Rs),
      Fn Try.prog 25 [.pointer (some ⟨p, 0, none⟩), .slice B 3 cb] W (RetNew (fun v => .tuple #[v, .int .i64 0]) 67 3 1 [.int .i64 1, .int .i64 2, .int .i64 2] W) := fun W p A B cap cb bs Rs hB hG => by
    have := zbord_E (W := W) (cb := cb) rfl hB hG
    rw [e3] at this
    exact this
  have S := St.start W
  refine Fn_enter Try.func21 rfl Try.results21 Try.ntmps21 (by kernel_rfl) (by kernel_rfl) ?_
  repeat refine cw_seq ?_
  refine cw_region ?_
  refine rw_v (op_pure rfl) ?_
  first | refine rw_end ?_ | (refine rw_nil ?_; show CW _ _ _ _ _ _) | refine rw_nil ?_
  repeat refine cw_seq ?_
  refine cw_region ?_
  refine rw_buildS Try.underlying22 Try.sizeOf2 Try.zeroValue2 rfl rfl rfl rfl rfl rfl S ?_
  intro A_v3 w2_ g2_ S sa_v3
  refine rw_call rfl (from_E (W := w2_) (V := [4, 5, 9]) (gw := 3) (gh := 1) 3 (by omega) (by omega) rfl hmay (S.rd (i := 0) rfl)) ?_
  rintro _ w3_ ⟨p2, B, bc, bs2, Rs2, rfl, hG2, hf2, g3_⟩
  have S := S.pushGrid hG2 hf2 g3_
  iterate 5 refine rw_v (op_pure rfl) ?_
  first | refine rw_end ?_ | (refine rw_nil ?_; show CW _ _ _ _ _ _) | refine rw_nil ?_
  repeat refine cw_seq ?_
  refine cw_region ?_
  refine rw_buildS Try.underlying22 Try.sizeOf2 Try.zeroValue2 rfl rfl rfl rfl rfl rfl S ?_
  intro A_lb w5_ g5_ S sa_lb
  refine rw_v (op_pure rfl) ?_
  first | refine rw_end ?_ | (refine rw_nil ?_; show CW _ _ _ _ _ _) | refine rw_nil ?_
  repeat refine cw_seq ?_
  refine cw_region ?_
  iterate 2 refine rw_v (op_pure rfl) ?_
  refine rw_call rfl (hzo w5_ p2 B A_lb bc 3 bs2 Rs2 (S.rd (i := 0) rfl) (S.grid (i := 1) rfl)) ?_
  rintro _ w6_ ⟨A_z, c_z, rfl, hR_z, hf_z, g6_⟩
  have S := S.pushRow hR_z hf_z g6_
  iterate 5 refine rw_v (op_pure rfl) ?_
  first | refine rw_end ?_ | (refine rw_nil ?_; show CW _ _ _ _ _ _) | refine rw_nil ?_
  repeat refine cw_seq ?_
  refine cw_region ?_
  iterate 2 refine rw_v (op_pure rfl) ?_
  refine rw_call rfl (hzb w6_ p2 B A_lb bc 3 bs2 Rs2 (S.rd (i := 1) rfl) (S.grid (i := 2) rfl)) ?_
  rintro _ w7_ ⟨A_pr, c_pr, rfl, hR_pr, hf_pr, g7_⟩
  have S := S.pushRow hR_pr hf_pr g7_
  iterate 5 refine rw_v (op_pure rfl) ?_
  first | refine rw_end ?_ | (refine rw_nil ?_; show CW _ _ _ _ _ _) | refine rw_nil ?_
  repeat refine cw_seq ?_
  refine cw_region ?_
  have sa_z : SomeA A_z := (S.row (i := 1) rfl).someA (by omega)
  have sa_pr : SomeA A_pr := (S.row (i := 0) rfl).someA (by omega)
  refine rw_v (op_pure rfl) ?_
  refine rw_v (op_b (b := true) rfl (beq_iff_eq.2 (by omega))) ?_
  refine rw_v (op_pure rfl) ?_
  first | refine rw_off rfl ?_ | (refine rw_on rfl ?_; refine rw_v (op_pure rfl) ?_)
  first | refine rw_off rfl ?_ | (refine rw_on rfl ?_; refine rw_v (op_b (b := true) rfl (beq_iff_eq.2 (by omega))) ?_)
  iterate 2 refine rw_v (op_pure rfl) ?_
  first | refine rw_off rfl ?_ | (refine rw_on rfl ?_; refine rw_v (op_pure rfl) ?_)
  first | refine rw_off rfl ?_ | (refine rw_on rfl ?_; refine rw_v (op_b (b := true) rfl (beq_iff_eq.2 (by omega))) ?_)
  iterate 2 refine rw_v (op_pure rfl) ?_
  first | refine rw_off rfl ?_ | (refine rw_on rfl ?_; refine rw_v (op_pure rfl) ?_)
  first | refine rw_off rfl ?_ | (refine rw_on rfl ?_; refine rw_v (op_len Try.underlying52 rfl) ?_)
  first | refine rw_off rfl ?_ | (refine rw_on rfl ?_; refine rw_v (op_b (b := true) rfl (beq_iff_eq.2 (by omega))) ?_)
  iterate 2 refine rw_v (op_pure rfl) ?_
  first | refine rw_off rfl ?_ | (refine rw_on rfl ?_; refine rw_v (op_pure rfl) ?_)
  first | refine rw_off rfl ?_ | (refine rw_on rfl ?_; refine rw_v (op_idx Try.underlying52 Try.sizeOf59 rfl rfl sa_z (by omega) (by omega)) ?_)
  first | refine rw_off rfl ?_ | (refine rw_on rfl ?_; refine rw_v (op_fld Try.underlying59 rfl Try.sizeOf2 rfl rfl sa_z) ?_)
  first | refine rw_off rfl ?_ | (refine rw_on rfl ?_; refine rw_r (op_ldR Try.underlying2 rfl rfl (S.rd (i := 1) rfl) rfl) ?_)
  first | refine rw_off rfl ?_ | (refine rw_on rfl ?_; refine rw_v (op_b (b := true) rfl (beq_iff_eq.2 (by omega))) ?_)
  iterate 2 refine rw_v (op_pure rfl) ?_
  first | refine rw_off rfl ?_ | (refine rw_on rfl ?_; refine rw_v (op_pure rfl) ?_)
  first | refine rw_off rfl ?_ | (refine rw_on rfl ?_; refine rw_v (op_idx Try.underlying52 Try.sizeOf59 rfl rfl sa_z (by omega) (by omega)) ?_)
  first | refine rw_off rfl ?_ | (refine rw_on rfl ?_; refine rw_v (op_fld Try.underlying59 rfl Try.sizeOf2 rfl rfl sa_z) ?_)
  first | refine rw_off rfl ?_ | (refine rw_on rfl ?_; refine rw_r (op_ldR Try.underlying2 rfl rfl (S.rd (i := 1) rfl) rfl) ?_)
  first | refine rw_off rfl ?_ | (refine rw_on rfl ?_; refine rw_v (op_b (b := true) rfl (beq_iff_eq.2 (by omega))) ?_)
  iterate 2 refine rw_v (op_pure rfl) ?_
  first | refine rw_off rfl ?_ | (refine rw_on rfl ?_; refine rw_v (op_pure rfl) ?_)
  first | refine rw_off rfl ?_ | (refine rw_on rfl ?_; refine rw_v (op_len Try.underlying61 rfl) ?_)
  first | refine rw_off rfl ?_ | (refine rw_on rfl ?_; refine rw_v (op_b (b := true) rfl (beq_iff_eq.2 (by omega))) ?_)
  iterate 2 refine rw_v (op_pure rfl) ?_
  first | refine rw_off rfl ?_ | (refine rw_on rfl ?_; refine rw_v (op_pure rfl) ?_)
  first | refine rw_off rfl ?_ | (refine rw_on rfl ?_; refine rw_v (op_idx Try.underlying61 Try.sizeOf67 rfl rfl sa_pr (by omega) (by omega)) ?_)
  first | refine rw_off rfl ?_ | (refine rw_on rfl ?_; refine rw_r (op_ldRA Try.underlying67 rfl (Try.sizeOf67 _) rfl (S.rd (i := 0) rfl) rfl rfl rfl) ?_)
  first | refine rw_off rfl ?_ | (refine rw_on rfl ?_; refine rw_v (op_build (pl := [(0, 1), (1, 1), (2, 1)]) Try.underlying67 Try.zeroValue67 (fun w => by kernel_rfl) rfl rfl) ?_)
  refine rw_on rfl ?_
  refine rw_v (op_eqPair (r := true) rfl rfl (by decide)) ?_
  iterate 2 refine rw_v (op_pure rfl) ?_
  first | refine rw_end ?_ | (refine rw_nil ?_; show CW _ _ _ _ _ _) | refine rw_nil ?_
  repeat refine cw_seq ?_
  refine cw_ret ?_
  repeat first | refine ret_then ?_ | refine ret_inb ?_
  exact res1 rfl ⟨rfl, S.out⟩
end Go.Proofs.Yteihfmifelcidaa
/- Package route: a land's cells, neighbours, steps. -/
namespace Go.Proofs.Yteihfmifelcidaa
open Go.RowKit
set_option linter.unusedVariables false
set_option linter.unusedSimpArgs false
set_option maxRecDepth 100000

/-! ### Rows of numbers -/
def natsV (l : List Nat) : List Value := l.map fun (j : Nat) => Value.int .i64 (j : Int)
theorem natsV_len (l : List Nat) : (natsV l).length = l.length := by simp [natsV]
theorem natsV_app (l m : List Nat) : natsV l ++ natsV m = natsV (l ++ m) := by simp [natsV]
theorem natsV_get {l : List Nat} {i j : Nat} (h : l[i]? = some j) : (natsV l)[(i : Int).toNat * 1]? = some (.int .i64 (j : Int)) := by
  rw [Nat.mul_one, Int.toNat_natCast, natsV, List.getElem?_map, h]; rfl
def cellsQ (n : Nat) (o : Nat → Int) : List Value := (List.range n).map fun i => .int .i64 (o i)
theorem cellsQ_len (n : Nat) (o : Nat → Int) : (cellsQ n o).length = n := by simp [cellsQ]
theorem cellsQ_get {n i : Nat} {o : Nat → Int} (h : i < n) : (cellsQ n o)[(i : Int).toNat * 1]? = some (.int .i64 (o i)) := by
  rw [Nat.mul_one, Int.toNat_natCast, cellsQ, List.getElem?_map, List.getElem?_range h]; rfl
theorem cellsQ_ints (n : Nat) (o : Nat → Int) : cellsQ n o = ints ((List.range n).map o) := by simp [cellsQ, ints]
theorem cellsQ_congr {n : Nat} {o o' : Nat → Int} (h : ∀ i, i < n → o i = o' i) : cellsQ n o = cellsQ n o' := by
  unfold cellsQ
  refine List.map_congr_left fun i hi => ?_
  rw [h i (List.mem_range.1 hi)]
theorem cellsQ_set {n k : Nat} {o : Nat → Int} {v : Int} : (cellsQ n o).set ((k : Int).toNat * 1) (.int .i64 v) = cellsQ n (updI o k v) := by
  rw [Nat.mul_one, Int.toNat_natCast]
  apply List.ext_getElem?
  intro i
  rw [List.getElem?_set]
  unfold cellsQ updI
  by_cases e : k = i
  · subst e
    rw [if_pos rfl]
    simp only [List.length_map, List.length_range]
    split
    · rename_i h; rw [List.getElem?_map, List.getElem?_range h]; simp
    · rename_i h; rw [List.getElem?_eq_none (by simp; omega)]
  · rw [if_neg e, List.getElem?_map, List.getElem?_map]
    by_cases h : i < n
    · rw [List.getElem?_range h, Option.map_some, Option.map_some, if_neg (fun h => e h.symm)]
    · rw [List.getElem?_eq_none (by simp; omega)]; rfl
theorem cellsQ_zero (n : Nat) : List.replicate n (Value.int .i64 0) = cellsQ n (fun _ => 0) := by
  unfold cellsQ
  rw [List.map_const', List.length_range]

section
variable {W : World} {A : Option Addr} {gw c : Nat} {V : List Int}
def vB (V : List Int) : Prop := ∀ i, -2147483648 ≤ V.getD i 0 ∧ V.getD i 0 ≤ 2147483647
theorem st_far (hb : vB V) (i j : Nat) : st V i j ≤ far := by have := hb i; have := hb j; unfold st far; omega
theorem IsDist.bound {a : Nat} {d : Nat → Int} (h : IsDist gw V a d) (hb : vB V) : ∀ j, j < V.length → d j ≤ rank V.length d j * far := by
  have key : ∀ (k : Nat) (j : Nat), j < V.length → rank V.length d j < k → d j ≤ rank V.length d j * far := by
    intro k
    induction k with
    | zero => intro j _ h; omega
    | succ k ih =>
      intro j hj hk
      by_cases e : j = a
      · subst e; rw [h.zero]; unfold far; omega
      · obtain ⟨i, hi, _, he⟩ := h.pred j hj e
        have h1 := st_pos V i j
        have h2 := st_far hb i j
        have h3 := rank_lt (n := V.length) (d := d) (i := i) (j := j) hi (by omega)
        have h4 := ih i hi (by omega)
        unfold far at *
        omega
  exact fun j hj => key (rank V.length d j + 1) j hj (by omega)
end
theorem vB_of_may {V : List Int} (h : ∀ v ∈ V, mayB v = true) : vB V := by
  intro i
  rw [List.getD_eq_getElem?_getD]
  cases e : V[i]? with
  | none => simp
  | some v =>
    have := h v (List.mem_of_getElem? e)
    unfold mayB at this
    simpa using this
theorem vB_grid {gw gh : Nat} {cc : Nat → Int} (h : ∀ i, i < gw * gh → -2147483648 ≤ cc i ∧ cc i ≤ 2147483647) : vB (gridL gw gh cc) := by
  intro i
  unfold gridL
  rw [List.getD_eq_getElem?_getD]
  by_cases hi : i < gw * gh
  · rw [List.getElem?_map, List.getElem?_range hi]; exact h i hi
  · rw [List.getElem?_eq_none (by simp; omega)]; simp
end Go.Proofs.Yteihfmifelcidaa
/- area.Build, Sum, Mean: a table of sums. -/
namespace Go.Proofs.Yteihfmifelcidaa
open Go.RowKit
set_option linter.unusedVariables false
set_option linter.unusedSimpArgs false
set_option maxRecDepth 100000

theorem info_t22 : (Try.prog.info? 22).map (fun i => (i.zero, i.size, i.bytes)) = some (some (.slice none 0 0), 1, 24) := by kernel_rfl
/-! ### Rows of one length -/
def slV (k : Nat) (As : Nat → Option Addr) (n : Nat) (cs : Nat → Nat) : List Value := (List.range k).map fun y => .slice (As y) n (cs y)
theorem slV_len (k : Nat) (As : Nat → Option Addr) (n : Nat) (cs : Nat → Nat) : (slV k As n cs).length = k := by simp [slV]
theorem slV_get {k : Nat} {As : Nat → Option Addr} {n : Nat} {cs : Nat → Nat} {y : Nat} (h : y < k) : (slV k As n cs)[((y : Nat) : Int).toNat * 1]? = some (.slice (As y) n (cs y)) := by simp [slV, h]
def addO {α : Type} (f : Nat → α) (k : Nat) (x : α) : Nat → α := fun t => if t = k then x else f t
theorem addO_at {α : Type} {f : Nat → α} {k : Nat} {x : α} : addO f k x k = x := if_pos rfl
theorem addO_lt {α : Type} {f : Nat → α} {k t : Nat} {x : α} (h : t < k) : addO f k x t = f t := if_neg (by omega)
theorem slV_push {k : Nat} {As : Nat → Option Addr} {n : Nat} {cs : Nat → Nat} {A : Option Addr} {c : Nat} : slV k As n cs ++ [.slice A n c] = slV (k + 1) (addO As k A) n (addO cs k c) := by
  unfold slV
  rw [List.range_succ, List.map_append, List.map_singleton, addO_at, addO_at]
  congr 1
  exact List.map_congr_left fun t ht => by rw [addO_lt (List.mem_range.1 ht), addO_lt (List.mem_range.1 ht)]
def HA.rfam (el k : Nat) (As : Nat → Option Addr) (cs : Nat → Nat) (n : Nat) (xs : Nat → List Value) : HA :=
  ⟨fun g => ∃ t, t < k ∧ ownA (As t) g, fun w => ∀ t, t < k → Row w el 1 (As t) n (cs t) (xs t), fun _ _ h _ hR t ht => (hR t ht).keep (fun g hg => h g ⟨t, ht, hg⟩), fun _ hR _ ⟨t, ht, hg⟩ => (hR t ht).lt hg⟩
section
variable {F : Nat → Prop} {W w : World} {L : List HA} {el k n c i : Nat} {As : Nat → Option Addr} {cs : Nat → Nat} {xs : Nat → List Value} {A : Option Addr} {l : List Value}
theorem St.rfam0 (S : St F W w L) (As : Nat → Option Addr) (cs : Nat → Nat) (xs : Nat → List Value) : St F W w (.rfam el 0 As cs n xs :: L) :=
  S.push (Gr.refl w) (h := .rfam el 0 As cs n xs) (fun t ht => by omega) (fun g ⟨t, ht, _⟩ => by omega)
theorem St.rrow (S : St F W w L) (hi : getO L i = some (.rfam el k As cs n xs)) {t : Nat} (ht : t < k) : Row w el 1 (As t) n (cs t) (xs t) := S.ok hi t ht
theorem St.rrd (S : St F W w L) (hi : getO L i = some (.rfam el k As cs n xs)) {t : Nat} (ht : t < k) : Rd w (As t) (xs t) := (S.rrow hi ht).rd
theorem St.rfamPush (S : St F W w (.row el 1 A n c l :: .rfam el k As cs n xs :: L)) (hl : xs k = l) : St F W w (.rfam el (k + 1) (addO As k A) (addO cs k c) n xs :: L) := by
  have h1 := S.sep.1
  have h2 := S.sep.2.2.1
  have h3 := S.sep.2.2.2
  refine ⟨S.fr, ⟨fun t ht => ?_, fun g ⟨t, ht, e⟩ => ?_⟩, fun g ⟨t, ht, e⟩ h hh => ?_, h3.2⟩
  · by_cases e : t = k
    · subst e; rw [addO_at, addO_at, hl]; exact h1.1
    · rw [addO_lt (by omega), addO_lt (by omega)]; exact h2.1 t (by omega)
  · by_cases ek : t = k
    · subst ek; rw [addO_at] at e; exact h1.2 g e
    · rw [addO_lt (by omega)] at e; exact h2.2 g ⟨t, by omega, e⟩
  · by_cases ek : t = k
    · subst ek; rw [addO_at] at e; exact S.sep.2.1 g e h (List.mem_cons_of_mem _ hh)
    · rw [addO_lt (by omega)] at e; exact h3.1 g ⟨t, by omega, e⟩ h hh
end
theorem SepL.perm_ {X : Nat → Prop} {w : World} {L L' : List HA} (p : L.Perm L') : SepL X w L → SepL X w L' := by
  induction p with
  | nil => exact id
  | cons a p ih => exact fun h => ⟨h.1, fun g hg h' hh => h.2.1 g hg h' (p.mem_iff.2 hh), ih h.2.2⟩
  | swap a b l =>
    intro h
    refine ⟨h.2.2.1, fun g hg h' hh => ?_, h.1, fun g hg h' hh => h.2.1 g hg h' (List.mem_cons_of_mem _ hh), h.2.2.2.2⟩
    rcases List.mem_cons.1 hh with e | hh
    · subst e; exact fun ho => h.2.1 g ho a List.mem_cons_self hg
    · exact h.2.2.2.1 g hg h' hh
  | trans _ _ ih1 ih2 => exact fun h => ih2 (ih1 h)
theorem St.perm_ {F : Nat → Prop} {W w : World} {L L' : List HA} (S : St F W w L) (p : L.Perm L') : St F W w L' := ⟨S.fr, S.sep.perm_ p⟩
theorem perm_three {α : Type} (a b c : α) (L : List α) : (a :: b :: c :: L).Perm (c :: a :: b :: L) := (List.perm_append_comm (l₁ := [a, b]) (l₂ := [c])).append_right L
/-! ### Sums -/
def rowS (V : List Int) (o : Nat) : Nat → Int
  | 0 => 0
  | x + 1 => rowS V o x + V.getD (o + x) 0
def psum (V : List Int) (gw : Nat) : Nat → Nat → Int
  | 0, _ => 0
  | y + 1, x => rowS V (y * gw) x + psum V gw y x
theorem psum_col (V : List Int) (gw : Nat) : ∀ y, psum V gw y 0 = 0
  | 0 => rfl
  | y + 1 => by show rowS V (y * gw) 0 + psum V gw y 0 = 0; rw [psum_col V gw y]; rfl
theorem rowS_bnd {V : List Int} (hB : vB V) (o : Nat) : ∀ x : Nat, -(2147483648 * (x : Int)) ≤ rowS V o x ∧ rowS V o x ≤ 2147483648 * (x : Int)
  | 0 => by simp [rowS]
  | x + 1 => by
    have := rowS_bnd hB o x
    have := hB (o + x)
    show _ ≤ rowS V o x + V.getD (o + x) 0 ∧ rowS V o x + V.getD (o + x) 0 ≤ _
    omega
theorem psum_bnd {V : List Int} (hB : vB V) (gw : Nat) {x : Nat} (hx : x ≤ 1024) : ∀ y : Nat, -(2199023255552 * (y : Int)) ≤ psum V gw y x ∧ psum V gw y x ≤ 2199023255552 * (y : Int)
  | 0 => by simp [psum]
  | y + 1 => by
    have := psum_bnd hB gw hx y
    have := rowS_bnd hB (y * gw) x
    show _ ≤ rowS V (y * gw) x + psum V gw y x ∧ rowS V (y * gw) x + psum V gw y x ≤ _
    omega
theorem cellsQ_push {n : Nat} {o : Nat → Int} {v : Int} (h : v = o n) : cellsQ n o ++ [.int .i64 v] = cellsQ (n + 1) o := by
  subst h
  unfold cellsQ
  rw [List.range_succ, List.map_append]
  rfl
section
variable {W : World} {A : Option Addr} {p gw gh cap : Nat} {cc : Nat → Int} {bs : Nat → Nat} {Rs : Nat → Option Nat}
end
end Go.Proofs.Yteihfmifelcidaa
/- Cells by their places: the neighbours that the document lists are those of the program, in the same order. -/
namespace Go.Proofs.Yteihfmifelcidaa
open Go.RowKit
set_option linter.unusedVariables false
set_option linter.unusedSimpArgs false
set_option maxRecDepth 100000

/-! ### '==' and '!=' between cells -/
theorem guard_agg {P : Program} {w : World} {op : BinOp} {t : TypeId} {x y : Operand} {a b : Array Value} (h : P.eqGuardType P.depth t = false) : (eqGuard op t x y (.agg a) (.agg b)).run P w = .ok () w := by
  unfold eqGuard
  cases op <;> simp [h]
theorem eqCell_run (a b c d : Int) (w : World) : (binOp .eql 39 (.agg #[.int .i64 a, .int .i64 b]) (.agg #[.int .i64 c, .int .i64 d])).run Try.prog w = .ok (.bool (decide (a = c ∧ b = d))) w := by
  have u3 := Try.underlying2
  have a3 := Try.isAgg2
  have z3 := Try.sizeOf2
  have hS : Try.prog.underlying 39 = some (.struct (Try.prog.fieldsOf 39)) := by kernel_rfl
  have hp : Try.prog.stoodInHeld 39 = false := by kernel_rfl
  rw [run_eql_struct, show (10000 : Nat) = 9999 + 1 from rfl, run_equalIn_agg w 9999 39 _ _ hS hp]
  simp only [Program.fieldsOf, Try.underlying39]
  go_simp
  by_cases h1 : a = c <;> by_cases h2 : b = d <;> simp [h1, h2]
theorem neCell_run (a b c d : Int) (w : World) : (binOp .neq 39 (.agg #[.int .i64 a, .int .i64 b]) (.agg #[.int .i64 c, .int .i64 d])).run Try.prog w = .ok (.bool (!decide (a = c ∧ b = d))) w := by
  have u3 := Try.underlying2
  have a3 := Try.isAgg2
  have z3 := Try.sizeOf2
  have hS : Try.prog.underlying 39 = some (.struct (Try.prog.fieldsOf 39)) := by kernel_rfl
  have hp : Try.prog.stoodInHeld 39 = false := by kernel_rfl
  rw [run_neq_struct, show (10000 : Nat) = 9999 + 1 from rfl, run_equalIn_agg w 9999 39 _ _ hS hp]
  simp only [Program.fieldsOf, Try.underlying39]
  go_simp
  by_cases h1 : a = c <;> by_cases h2 : b = d <;> simp [h1, h2]
section
variable {e : Nat → Value} {dd : Option Tmp} {ty : TypeId} {ps : String} {af : Array Edge} {t' : TypeId} {x y : Operand} {a b c d : Int}
theorem op_eqCell {r : Bool} (hx : ev e x = .agg #[.int .i64 a, .int .i64 b]) (hy : ev e y = .agg #[.int .i64 c, .int .i64 d]) (hr : decide (a = c ∧ b = d) = r) : OpV Try.prog e ⟨dd, .binOp .eql 39 x y t', ty, ps, af, none⟩ (.bool r) := by
  intro w
  subst hr
  have hg : ∀ w, (eqGuard .eql 39 x y (.agg #[.int .i64 a, .int .i64 b]) (.agg #[.int .i64 c, .int .i64 d])).run Try.prog w = .ok () w := fun w => guard_agg (by kernel_rfl)
  simp [OpR, execOp, hx, hy, hg, eqCell_run]
theorem op_neCell {r : Bool} (hx : ev e x = .agg #[.int .i64 a, .int .i64 b]) (hy : ev e y = .agg #[.int .i64 c, .int .i64 d]) (hr : (!decide (a = c ∧ b = d)) = r) : OpV Try.prog e ⟨dd, .binOp .neq 39 x y t', ty, ps, af, none⟩ (.bool r) := by
  intro w
  subst hr
  have hg : ∀ w, (eqGuard .neq 39 x y (.agg #[.int .i64 a, .int .i64 b]) (.agg #[.int .i64 c, .int .i64 d])).run Try.prog w = .ok () w := fun w => guard_agg (by kernel_rfl)
  simp [OpR, execOp, hx, hy, hg, neCell_run]
end

/-! ### Cells by their places -/
def cz (gw j : Nat) : Int × Int := (((j % gw : Nat) : Int), ((j / gw : Nat) : Int))
theorem cz_in {gw gh i : Nat} (hgw : 0 < gw) (hi : i < gw * gh) : inG gw gh (cz gw i) = true := by
  have h1 := Nat.mod_lt i hgw
  have h2 : i / gw < gh := Nat.div_lt_of_lt_mul hi
  refine inG_iff.2 ?_
  unfold cz
  dsimp only
  generalize i % gw = x at *
  generalize i / gw = y at *
  omega
theorem cz_idx {gw i : Nat} : (cz gw i).2.toNat * gw + (cz gw i).1.toNat = i := by
  unfold cz
  simp only [Int.toNat_natCast]
  rw [Nat.mul_comm]
  exact Nat.div_add_mod i gw
theorem cz_of {gw X Y : Nat} (hX : X < gw) : cz gw (Y * gw + X) = ((X : Int), (Y : Int)) := by
  have h := cell_split (Y := Y) hX
  unfold cz
  rw [h.1, h.2]
theorem cz_inj {gw i j : Nat} (h : cz gw i = cz gw j) : i = j := by
  rw [← cz_idx (gw := gw) (i := i), h, cz_idx]
theorem filter4 {α : Type} (p : α → Bool) (a b c d : α) : [a, b, c, d].filter p = (if p a then [a] else []) ++ (if p b then [b] else []) ++ (if p c then [c] else []) ++ (if p d then [d] else []) := by
  simp only [List.filter_cons, List.filter_nil]
  cases p a <;> cases p b <;> cases p c <;> cases p d <;> rfl
theorem nearZ_eq {gw gh i : Nat} (hgw : 0 < gw) (hi : i < gw * gh) : nearZ gw gh (i % gw : Nat) (i / gw : Nat) = (nearN gw (gw * gh) i).map (cz gw) := by
  have hX := Nat.mod_lt i hgw
  have hY : i / gw < gh := Nat.div_lt_of_lt_mul hi
  have hd : i / gw * gw + i % gw = i := by rw [Nat.mul_comm]; exact Nat.div_add_mod i gw
  unfold nearZ near4
  rw [filter4]
  unfold nearN
  generalize i % gw = X at *
  generalize i / gw = Y at *
  have up1 : gw ≤ i ↔ 1 ≤ Y := by
    constructor
    · intro h; rcases Nat.eq_zero_or_pos Y with e | e
      · subst e; omega
      · exact e
    · intro h; have := Nat.mul_le_mul_right gw h; omega
  have dn1 : i + gw < gw * gh ↔ Y + 1 < gh := by
    constructor
    · intro h
      rcases Nat.lt_or_ge (Y + 1) gh with e | e
      · exact e
      · have := Nat.mul_le_mul_left gw e
        rw [Nat.mul_add, Nat.mul_one, Nat.mul_comm gw Y] at this
        omega
    · intro h
      have h2 : Y + 2 ≤ gh := h
      have := Nat.mul_le_mul_left gw h2
      rw [Nat.mul_add, Nat.mul_comm gw Y] at this
      omega
  have e1 : inG gw gh ((X : Int), (Y : Int) - 1) = decide (gw ≤ i) := by
    rw [Bool.eq_iff_iff, inG_iff, decide_eq_true_eq, up1]; dsimp only; omega
  have e2 : inG gw gh ((X : Int) - 1, (Y : Int)) = decide (0 < X) := by
    rw [Bool.eq_iff_iff, inG_iff, decide_eq_true_eq]; dsimp only; omega
  have e3 : inG gw gh ((X : Int) + 1, (Y : Int)) = decide (X + 1 < gw) := by
    rw [Bool.eq_iff_iff, inG_iff, decide_eq_true_eq]; dsimp only; omega
  have e4 : inG gw gh ((X : Int), (Y : Int) + 1) = decide (i + gw < gw * gh) := by
    rw [Bool.eq_iff_iff, inG_iff, decide_eq_true_eq, dn1]; dsimp only; omega
  rw [e1, e2, e3, e4]
  simp only [List.map_append, decide_eq_true_eq]
  have p1 : (if gw ≤ i then [((X : Int), (Y : Int) - 1)] else []) = List.map (cz gw) (if gw ≤ i then [i - gw] else []) := by
    by_cases h : gw ≤ i
    · rw [if_pos h, if_pos h]
      have h1 := up1.1 h
      have h2 : i - gw = (Y - 1) * gw + X := by rw [Nat.sub_mul, Nat.one_mul]; have := Nat.mul_le_mul_right gw h1; omega
      rw [h2, List.map_singleton, cz_of hX]
      congr 2; omega
    · rw [if_neg h, if_neg h]; rfl
  have p2 : (if 0 < X then [((X : Int) - 1, (Y : Int))] else []) = List.map (cz gw) (if 0 < X then [i - 1] else []) := by
    by_cases h : 0 < X
    · rw [if_pos h, if_pos h, show i - 1 = Y * gw + (X - 1) by omega, List.map_singleton, cz_of (by omega)]
      congr 2; omega
    · rw [if_neg h, if_neg h]; rfl
  have p3 : (if X + 1 < gw then [((X : Int) + 1, (Y : Int))] else []) = List.map (cz gw) (if X + 1 < gw then [i + 1] else []) := by
    by_cases h : X + 1 < gw
    · rw [if_pos h, if_pos h, show i + 1 = Y * gw + (X + 1) by omega, List.map_singleton, cz_of h]
      congr 2
    · rw [if_neg h, if_neg h]; rfl
  have p4 : (if i + gw < gw * gh then [((X : Int), (Y : Int) + 1)] else []) = List.map (cz gw) (if i + gw < gw * gh then [i + gw] else []) := by
    by_cases h : i + gw < gw * gh
    · rw [if_pos h, if_pos h, show i + gw = (Y + 1) * gw + X by rw [Nat.add_mul, Nat.one_mul]; omega, List.map_singleton, cz_of hX]
      congr 2
    · rw [if_neg h, if_neg h]; rfl
  rw [p1, p2, p3, p4]
end Go.Proofs.Yteihfmifelcidaa
/- area.Table.Sum, Mean; rect.Around; smooth.each, made, Mean: contracts. -/
namespace Go.Proofs.Yteihfmifelcidaa
open Go.RowKit
set_option linter.unusedVariables false
set_option linter.unusedSimpArgs false
set_option maxRecDepth 100000

section
variable {P : Program} {e : Nat → Value} {d : Option Tmp} {ty : TypeId} {ps : String} {af : Array Edge}
theorem op_remT {t t' : TypeId} {x y : Operand} {a b : Int} (hx : ev e x = .int .i64 a) (hy : ev e y = .int .i64 b) (hb : 0 < b) : OpV P e ⟨d, .binOp .rem t x y t', ty, ps, af, none⟩ (.int .i64 (a.tmod b)) := by
  intro w
  have h4 : b ≠ 0 := by omega
  simp [OpR, execOp, hx, hy, eqGuard, binOp, Op.intDiv, h4]
theorem op_quoT {t t' : TypeId} {x y : Operand} {a b c : Int} (hx : ev e x = .int .i64 a) (hy : ev e y = .int .i64 b) (hb : 0 < b) (hc : a.tdiv b = c) (hr : -9223372036854775808 ≤ c ∧ c ≤ 9223372036854775807) : OpV P e ⟨d, .binOp .quo t x y t', ty, ps, af, none⟩ (.int .i64 c) := by
  intro w
  have h4 : b ≠ 0 := by omega
  have h5 : IntKind.i64.wrap c = c := IntWalk.i64_in _ hr
  simp [OpR, execOp, hx, hy, eqGuard, binOp, Op.intDiv, h4, hc, h5]
end
/-- a sum over a rectangle, by the table -/
def rsum (V : List Int) (gw x0 y0 x1 y1 : Nat) : Int := psum V gw (y1 + 1) (x1 + 1) - psum V gw (y1 + 1) x0 - psum V gw y0 (x1 + 1) + psum V gw y0 x0
theorem floor_go {s n : Int} (hn : 0 < n) : -n < s.tmod n ∧ s.tmod n < n ∧ (s.tmod n + n).tmod n = s % n ∧ (s - s % n).tdiv n = s / n := by
  have h1 : -n < s.tmod n ∧ s.tmod n < n := by
    have := Int.tmod_lt_of_pos s hn
    have h2 : -n < s.tmod n := by
      have := Int.lt_tmod_of_pos s hn
      omega
    exact ⟨h2, this⟩
  refine ⟨h1.1, h1.2, ?_, ?_⟩
  · rw [Int.tmod_eq_emod_of_nonneg (by omega), Int.add_emod_right]
    have := Int.mul_tdiv_add_tmod s n
    have h3 : s.tmod n = s - n * s.tdiv n := by omega
    rw [h3, Int.sub_mul_emod_self_left]
  · have h3 := Int.mul_ediv_add_emod s n
    have h4 : s - s % n = s / n * n := by rw [Int.mul_comm]; omega
    rw [h4, Int.mul_tdiv_cancel _ (by omega)]
section
variable {W : World} {tb gw gh : Nat} {V : List Int}
end
end Go.Proofs.Yteihfmifelcidaa
/- grid.Same, hachurelaw09.Is (also in FillK and FillV, here apart from fill). -/
namespace Go.Proofs.Yteihfmifelcidaa
open Go.RowKit
set_option linter.unusedVariables false
set_option linter.unusedSimpArgs false
set_option maxRecDepth 100000

section
variable {W : World}
end
section
variable {W : World} {A B : Option Addr} {p gw gh cap cu : Nat} {cc : Nat → Int} {bs : Nat → Nat} {Rs : Nat → Option Nat} {U : List Int}
theorem is_E (hU : U.length = gw * gh) (hG : GridAt W p gw gh cc A cap bs Rs) (hR : Rd W B (ints U)) :
    Fn Try.prog 32 [.pointer (some ⟨p, 0, none⟩), .agg #[.int .i64 gw, .int .i64 gh, .slice B (gw * gh) cu]] W (RetG (.bool (decide (gridL gw gh cc = U))) W) := by
  have hw := hG.sw
  have hh := hG.sh
  have hn : gw * gh ≤ 1024 * 1024 := Nat.mul_le_mul hw.2 hh.2
  have hV := gridL_len gw gh cc
  have e1 : ((gw : Int) - 1) = ((gw - 1 : Nat) : Int) := by omega
  have e2 : ((gh : Int) - 1) = ((gh - 1 : Nat) : Int) := by omega
  have hval : ∀ w, Gr W w → Fn Try.prog 37 [.pointer (some ⟨p, 0, none⟩), .agg #[.int .i64 0, .int .i64 0, .int .i64 (gw - 1), .int .i64 (gh - 1)]] w (RetNew (fun v => .tuple #[v, .int .i64 0]) 2 1 (gw * gh) (ints (gridL gw gh cc)) w) := fun w g => by
    have := gvalues_E (W := w) 0 0 (gw - 1) (gh - 1) (by omega) (by omega) (hG.gr g)
    rw [← e1, ← e2, show gw - 1 + 1 - 0 = gw by omega, show gh - 1 + 1 - 0 = gh by omega, rectV_all, Nat.mul_comm gh gw] at this
    exact this
  have hsame : ∀ (A1 : Option Addr) (c1 : Nat) (w : World), Rd w A1 (ints (gridL gw gh cc)) → Rd w B (ints U) → Fn Try.prog 64 [.slice A1 (gw * gh) c1, .slice B (gw * gh) cu] w (RetG (.bool (decide (gridL gw gh cc = U))) w) := fun A1 c1 w h1 h2 => by
    have := rsame_E A1 B c1 cu (gridL gw gh cc) U w (by omega) h1 h2
    rw [hV, hU] at this
    exact this
  have S := St.start W
  refine Fn_enter Try.func32 rfl Try.results32 Try.ntmps32 (by kernel_rfl) (by kernel_rfl) ?_
  repeat refine cw_seq ?_
  refine cw_region ?_
  refine rw_newB (op_box rfl) S ?_
  intro b_md w2_ g2_ S
  refine rw_v (op_pure rfl) ?_
  first | refine rw_end ?_ | (refine rw_nil ?_; show CW _ _ _ _ _ _) | refine rw_nil ?_
  repeat refine cw_seq ?_
  refine cw_region ?_
  refine rw_v (op_pure rfl) ?_
  refine rw_call rfl (gsize_E p gw gh _ w2_ (hG.top.gr S.out)) ?_
  rintro _ w3_ ⟨rfl, g3_⟩
  have S := S.gr g3_
  iterate 5 refine rw_v (op_pure rfl) ?_
  first | refine rw_end ?_ | (refine rw_nil ?_; show CW _ _ _ _ _ _) | refine rw_nil ?_
  repeat refine cw_seq ?_
  refine cw_region ?_
  iterate 2 refine rw_v (op_pure rfl) ?_
  refine rw_call rfl (gall_E p gw gh hw.2 hh.2 _ w3_ (hG.top.gr S.out)) ?_
  rintro _ w4_ ⟨rfl, g4_⟩
  have S := S.gr g4_
  refine rw_call rfl (hval w4_ S.out) ?_
  rintro _ w5_ ⟨A_v, c_v, rfl, hR_v, hf_v, g5_⟩
  have S := S.pushRow hR_v hf_v g5_
  iterate 5 refine rw_v (op_pure rfl) ?_
  first | refine rw_end ?_ | (refine rw_nil ?_; show CW _ _ _ _ _ _) | refine rw_nil ?_
  repeat refine cw_seq ?_
  refine cw_region ?_
  refine rw_v (op_pure rfl) ?_
  refine rw_v (op_fieldAddr Try.underlying25 rfl Try.sizeOf2 rfl rfl) ?_
  refine rw_r (op_loadB Try.underlying2 rfl rfl (S.blk (i := 1) rfl) rfl) ?_
  first | refine rw_v (op_b (b := true) rfl (beq_iff_eq.2 (by omega))) ?_ | refine rw_v (op_b (b := false) rfl (beq_eq_false_iff_ne.2 (by omega))) ?_ | refine rw_v (op_pure rfl) ?_
  refine rw_v (op_pure rfl) ?_
  first | refine rw_off rfl ?_ | (refine rw_on rfl ?_; refine rw_v (op_pure rfl) ?_)
  first | refine rw_off rfl ?_ | (refine rw_on rfl ?_; refine rw_v (op_fieldAddr Try.underlying25 rfl Try.sizeOf2 rfl rfl) ?_)
  first | refine rw_off rfl ?_ | (refine rw_on rfl ?_; refine rw_r (op_loadB Try.underlying2 rfl rfl (S.blk (i := 1) rfl) rfl) ?_)
  first | refine rw_off rfl ?_ | (refine rw_on rfl ?_; (first | refine rw_v (op_b (b := true) rfl (beq_iff_eq.2 (by omega))) ?_ | refine rw_v (op_b (b := false) rfl (beq_eq_false_iff_ne.2 (by omega))) ?_ | refine rw_v (op_pure rfl) ?_))
  iterate 2 refine rw_v (op_pure rfl) ?_
  first | refine rw_off rfl ?_ | (refine rw_on rfl ?_; refine rw_v (op_pure rfl) ?_)
  first | refine rw_off rfl ?_ | (refine rw_on rfl ?_; (first | refine rw_v (op_b (b := true) rfl (beq_iff_eq.2 (by omega))) ?_ | refine rw_v (op_b (b := false) rfl (beq_eq_false_iff_ne.2 (by omega))) ?_ | refine rw_v (op_pure rfl) ?_))
  iterate 2 refine rw_v (op_pure rfl) ?_
  first | refine rw_off rfl ?_ | (refine rw_on rfl ?_; refine rw_v (op_pure rfl) ?_)
  first | refine rw_off rfl ?_ | (refine rw_on rfl ?_; refine rw_v (op_fieldAddr Try.underlying25 rfl Try.sizeOf22 rfl rfl) ?_)
  first | refine rw_off rfl ?_ | (refine rw_on rfl ?_; refine rw_r (op_loadB Try.underlying22 rfl rfl (S.blk (i := 1) rfl) rfl) ?_)
  refine rw_on rfl ?_
  refine rw_call rfl (hsame A_v c_v w5_ (S.rd (i := 0) rfl) (hR.gr S.out)) ?_
  rintro _ w6_ ⟨rfl, g6_⟩
  have S := S.gr g6_
  iterate 2 refine rw_v (op_pure rfl) ?_
  first | refine rw_end ?_ | (refine rw_nil ?_; show CW _ _ _ _ _ _) | refine rw_nil ?_
  repeat refine cw_seq ?_
  refine cw_ret ?_
  repeat first | refine ret_then ?_ | refine ret_inb ?_
  exact res1 rfl ⟨rfl, S.out⟩
end
end Go.Proofs.Yteihfmifelcidaa
