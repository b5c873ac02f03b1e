/- hachureref08.Range, hachureref46.level, key: contracts. -/
import Derived.Test.YtiidmiebckkloaaPL
import Derived.Test.YtiidmiebckkloaaPM
import Derived.Test.YtiidmiebckkloaaPC
import Derived.Maps.Own
namespace Go.Proofs.Ytiidmiebckkloaa
open Go.RowKit
set_option linter.unusedVariables false
set_option linter.unusedSimpArgs false
set_option maxRecDepth 100000

/-- a variable that is laid, and then set, while other operations come up that do not mind -/
def CA (F : Nat → Prop) (W : World) (L : List HA) (t : TypeId) (z l : List Value) (σ : List Value) (w : World) : Prop := match σ with
  | [] => St F W w L
  | [v] => ∃ b, v = .pointer (some ⟨b, 0, none⟩) ∧ St F W w (.blk b t z :: L)
  | _ :: v :: _ => ∃ b, v = .pointer (some ⟨b, 0, none⟩) ∧ St F W w (.blk b t l :: L)
section
variable {F : Nat → Prop} {W w w' : World} {L : List HA} {t : TypeId} {z l : List Value} {σ : List Value}
theorem CA.start (S : St F W w L) : CA F W L t z l [] w := S
theorem CA.gr (h : CA F W L t z l σ w) (g : Gr w w') : CA F W L t z l σ w' := by
  match σ, h with
  | [], h => exact St.gr h g
  | [v], ⟨b, e, S⟩ => exact ⟨b, e, S.gr g⟩
  | _ :: v :: _, ⟨b, e, S⟩ => exact ⟨b, e, S.gr g⟩
theorem CA.st (h : CA F W L t z l σ w) : St F W w L := by
  match σ, h with
  | [], h => exact h
  | [v], ⟨b, e, S⟩ => exact S.drop 1
  | _ :: v :: _, ⟨b, e, S⟩ => exact S.drop 1
theorem CA.fin {a v : Value} {σ : List Value} (h : CA F W L t z l (a :: v :: σ) w) : ∃ b, v = .pointer (some ⟨b, 0, none⟩) ∧ St F W w (.blk b t l :: L) := h
section
variable {P : Program} {e : Nat → Value} {d : Option Tmp} {ty : TypeId} {ps : String} {af : Array Edge}
theorem to_allocCA {zv : Value} (h : CA F W L t z l [] w) (hz : ∀ w, (zeroValue t).run P w = .ok zv w) (hl : zv.cells.toList = z) : opTo P e ⟨d, .alloc t, ty, ps, af, none⟩ w (fun v w' => CA F W L t z l [v] w') :=
  opTo_of_rw rfl (rw_newB (op_alloc hz hl) h (fun b w' g S => ⟨b, rfl, S⟩))
theorem to_storeCA {b n : Nat} {x y : Operand} {cs : List Value} (h : CA F W L t z l [.pointer (some ⟨b, 0, none⟩)] w) (hz : (sizeOf t).run P w = .ok n w) (hx : ev e x = .pointer (some ⟨b, 0, none⟩)) (hy : ev e y = .agg cs.toArray) (hn : cs.length = n)
    (hl' : fzl (z.take 0 ++ cs ++ z.drop (0 + n)) = some l) (ho : ((cs.all fun v => v.oneCell') && Nat.ble (0 + n) z.length) = true) : opTo P e ⟨d, .store t x y, ty, ps, af, none⟩ w (fun v w' => CA F W L t z l [v, .pointer (some ⟨b, 0, none⟩)] w') := by
  obtain ⟨b', e', S⟩ := h
  cases e'
  exact opTo_of_rw rfl (rw_storeSA (i := 0) S rfl hz hx hy hn hl' ho rfl (fun w' S' => ⟨b, rfl, S'⟩))
end
end
/-- the range of a list -/
def RgL (L : List Int) (lo hi : Int) : Prop := (∀ v ∈ L, lo ≤ v ∧ v ≤ hi) ∧ lo ∈ L ∧ hi ∈ L
theorem RgL.push {L : List Int} {lo hi lo' hi' v : Int} (h : RgL L lo hi) (e1 : lo' = min lo v) (e2 : hi' = max hi v) : RgL (L ++ [v]) lo' hi' := by
  obtain ⟨h1, h2, h3⟩ := h
  refine ⟨fun u hu => ?_, ?_, ?_⟩
  · rcases List.mem_append.1 hu with hu | hu
    · have := h1 u hu; omega
    · rw [List.mem_singleton.1 hu]; omega
  · by_cases e : lo ≤ v
    · rw [e1, show min lo v = lo by omega]; exact List.mem_append_left _ h2
    · rw [e1, show min lo v = v by omega]; exact List.mem_append_right _ (List.mem_singleton.2 rfl)
  · by_cases e : v ≤ hi
    · rw [e2, show max hi v = hi by omega]; exact List.mem_append_left _ h3
    · rw [e2, show max hi v = v by omega]; exact List.mem_append_right _ (List.mem_singleton.2 rfl)
section
variable {W : World} {A : Option Addr} {gw gh cap : Nat} {V : List Int}
set_option maxHeartbeats 2000000 in
theorem range8_E (L : List Int) (c : Nat) (hne : L ≠ []) (hlen : L.length ≤ 1048576) (hR : Rd W A (ints L)) :
    Fn Try.prog 32 [.slice A L.length c] W (fun v w' => ∃ lo hi, v = .agg #[.int .i64 lo, .int .i64 hi] ∧ RgL L lo hi ∧ Gr W w') := by
  have hl1 : 1 ≤ L.length := by
    cases L with
    | nil => exact absurd rfl hne
    | cons a l => simp
  have sa_A : SomeA A := hR.someA (by rw [ints_len]; omega)
  have hget0 : (ints L)[(0 : Int).toNat * 1]? = some (.int .i64 (L.getD 0 0)) := ints_get (getD_at (by omega))
  have htk : L.take 1 = [L.getD 0 0] := by
    cases L with
    | nil => exact absurd rfl hne
    | cons a l => simp
  have S := St.start W
  refine Fn_enter Try.func32 rfl Try.results32 Try.ntmps32 (by kernel_rfl) (by kernel_rfl) ?_
  repeat refine cw_seq ?_
  refine cw_region ?_
  refine rw_newB (op_alloc Try.zeroValue80 rfl) S ?_
  intro b_res w2_ g2_ S
  first | refine rw_end ?_ | (refine rw_nil ?_; show CW _ _ _ _ _ _) | refine rw_nil ?_
  repeat refine cw_seq ?_
  refine cw_region ?_
  refine rw_v (op_pure rfl) ?_
  refine rw_v (op_len Try.underlying30 rfl) ?_
  refine rw_v (op_b (b := false) rfl (beq_eq_false_iff_ne.2 (by omega))) ?_
  first | refine rw_end ?_ | (refine rw_nil ?_; show CW _ _ _ _ _ _) | refine rw_nil ?_
  repeat refine cw_seq ?_
  refine cw_false rfl ?_
  repeat refine cw_seq ?_
  refine cw_skip ?_
  try show CW _ _ _ _ _ _
  repeat refine cw_seq ?_
  refine cw_tri (C := (CA No W [.blk b_res 80 [.int .i64 0, .int .i64 0]] 80 [.int .i64 0, .int .i64 0] [.int .i64 (L.getD 0 0), .int .i64 (L.getD 0 0)])) [7, 8] [0, 1, 2, 3, 4, 5, 6, 7, 8] [] (by kernel_rfl) (by kernel_rfl) (CA.start (S.gr (Gr.drew _))) ?_
  simp only [pickI, pickL, List.drop_succ_cons, List.drop_zero]
  refine rs_v rfl (op_pure rfl) ?_
  refine rs_v rfl (op_idx Try.underlying30 Try.sizeOf2 rfl rfl sa_A (by omega) (by omega)) ?_
  refine rs_r rfl (fun τ wq hq => op_ldR Try.underlying2 rfl rfl (hR.gr (CA.st hq).out) hget0) ?_
  refine rs_v rfl (op_pure rfl) ?_
  refine rs_v rfl (op_idx Try.underlying30 Try.sizeOf2 rfl rfl sa_A (by omega) (by omega)) ?_
  refine rs_r rfl (fun τ wq hq => op_ldR Try.underlying2 rfl rfl (hR.gr (CA.st hq).out) hget0) ?_
  refine rs_v rfl (op_build (pl := [(0, 1), (1, 1)]) Try.underlying80 Try.zeroValue80 (fun w => by kernel_rfl) rfl rfl) ?_
  refine rs_special rfl rfl (fun wq hq => to_allocCA hq Try.zeroValue80 rfl) ?_
  rintro v14 w14 ⟨b_r, rfl, _⟩
  refine rs_special rfl rfl (fun wq hq => to_storeCA hq (Try.sizeOf80 _) rfl rfl rfl rfl rfl) ?_
  rintro v15 w15 _
  refine rs_nil ?_
  rintro wz hz
  first | refine rw_end ?_ | (refine rw_nil ?_; show CW _ _ _ _ _ _) | refine rw_nil ?_
  repeat refine cw_seq ?_
  refine cw_region ?_
  obtain ⟨b_r2, e_r2, S⟩ := hz.fin
  cases e_r2
  refine rw_v (op_pure rfl) ?_
  first | refine rw_end ?_ | (refine rw_nil ?_; show CW _ _ _ _ _ _) | refine rw_nil ?_
  repeat refine cw_seq ?_
  refine cw_block ?_
  repeat refine cw_seq ?_
  refine cw_loop (fun m e w => ∃ (i : Nat) (lo hi : Int), i + m = L.length ∧ 1 ≤ i ∧ RgL (L.take i) lo hi ∧ SL e [(0, .slice A L.length c), (2, .pointer (some ⟨b_res, 0, none⟩)), (3, .pointer (some ⟨b_r, 0, none⟩)), (4, .int .i64 i)] ∧
    St No W w [.blk b_r 80 [.int .i64 lo, .int .i64 hi], .blk b_res 80 [.int .i64 0, .int .i64 0]]) (L.length - 1)
    ⟨1, L.getD 0 0, L.getD 0 0, by omega, by omega, by rw [htk]; exact ⟨fun v hv => by rw [List.mem_singleton.1 hv]; omega, by simp, by simp⟩, ⟨rfl, rfl, rfl, rfl, trivial⟩, S⟩ ?_
  clear S
  rintro m e w ⟨i, lo, hi, him, hi1, hL, hsl, S⟩
  rw [hsl.fold]
  by_cases hin : i < L.length
  · have hget : (ints L)[(i : Int).toNat * 1]? = some (.int .i64 (L.getD i 0)) := by rw [Nat.mul_one, Int.toNat_natCast]; exact ints_get (getD_at hin)
    have htk1 : L.take (i + 1) = L.take i ++ [L.getD i 0] := by
      rw [List.take_add_one, getD_at hin]; rfl
    have hpush := fun lo' hi' (e1 : lo' = min lo (L.getD i 0)) (e2 : hi' = max hi (L.getD i 0)) => hL.push (v := L.getD i 0) e1 e2
    rw [← htk1] at hpush
    generalize L.getD i 0 = v at *
    by_cases c1 : v < lo
    · by_cases c2 : v > hi
      · skip
        repeat refine cw_seq ?_
        refine cw_region ?_
        iterate 2 refine rw_v (op_pure rfl) ?_
        refine rw_v (op_len Try.underlying30 rfl) ?_
        refine rw_v (op_b (b := true) rfl (decide_eq_true (by omega))) ?_
        first | refine rw_end ?_ | (refine rw_nil ?_; show CW _ _ _ _ _ _) | refine rw_nil ?_
        repeat refine cw_seq ?_
        refine cw_true rfl ?_
        repeat refine cw_seq ?_
        refine cw_skip ?_
        try show CW _ _ _ _ _ _
        repeat refine cw_seq ?_
        refine cw_block ?_
        repeat refine cw_seq ?_
        refine cw_draw (C := fun wq => Gr w wq) [0, 1, 2, 3, 4, 5, 6] [] (by kernel_rfl) (by kernel_rfl) (Gr.drew _) ?_
        simp only [pickL, List.drop_succ_cons, List.drop_zero]
        iterate 2 refine rq_v (op_pure rfl) ?_
        refine rq_v (op_idx Try.underlying30 Try.sizeOf2 rfl rfl sa_A (by omega) (by omega)) ?_
        refine rq_r (fun wq hq => op_ldR Try.underlying2 rfl rfl (hR.gr (S.gr hq).out) hget) ?_
        refine rq_v (op_fieldAddr Try.underlying80 rfl Try.sizeOf2 rfl rfl) ?_
        refine rq_r (fun wq hq => op_loadB Try.underlying2 rfl rfl ((S.gr hq).blk (i := 0) rfl) rfl) ?_
        first | refine rq_v (op_b (b := true) rfl (decide_eq_true (by omega))) ?_ | refine rq_v (op_b (b := false) rfl (decide_eq_false (by omega))) ?_ | refine rq_v (op_pure rfl) ?_
        refine rq_nil ?_
        intro w4_ g4_
        have S := S.gr g4_
        first | refine rw_end ?_ | (refine rw_nil ?_; show CW _ _ _ _ _ _) | refine rw_nil ?_
        repeat refine cw_seq ?_
        refine cw_true rfl ?_
        repeat refine cw_seq ?_
        refine cw_region ?_
        iterate 2 refine rw_v (op_pure rfl) ?_
        refine rw_v (op_idx Try.underlying30 Try.sizeOf2 rfl rfl sa_A (by omega) (by omega)) ?_
        refine rw_r (op_ldR Try.underlying2 rfl rfl (hR.gr S.out) hget) ?_
        refine rw_v (op_fieldAddr Try.underlying80 rfl Try.sizeOf2 rfl rfl) ?_
        refine rw_storeS (i := 0) S rfl (Try.sizeOf2 _) rfl rfl rfl rfl rfl rfl ?_
        intro w5_ S
        first | refine rw_end ?_ | (refine rw_nil ?_; show CW _ _ _ _ _ _) | refine rw_nil ?_
        repeat refine cw_seq ?_
        refine cw_draw (C := fun wq => Gr w5_ wq) [0, 1, 2, 3, 4, 5, 6] [] (by kernel_rfl) (by kernel_rfl) (Gr.drew _) ?_
        simp only [pickL, List.drop_succ_cons, List.drop_zero]
        iterate 2 refine rq_v (op_pure rfl) ?_
        refine rq_v (op_idx Try.underlying30 Try.sizeOf2 rfl rfl sa_A (by omega) (by omega)) ?_
        refine rq_r (fun wq hq => op_ldR Try.underlying2 rfl rfl (hR.gr (S.gr hq).out) hget) ?_
        refine rq_v (op_fieldAddr Try.underlying80 rfl Try.sizeOf2 rfl rfl) ?_
        refine rq_r (fun wq hq => op_loadB Try.underlying2 rfl rfl ((S.gr hq).blk (i := 0) rfl) rfl) ?_
        first | refine rq_v (op_b (b := true) rfl (decide_eq_true (by omega))) ?_ | refine rq_v (op_b (b := false) rfl (decide_eq_false (by omega))) ?_ | refine rq_v (op_pure rfl) ?_
        refine rq_nil ?_
        intro w6_ g6_
        have S := S.gr g6_
        first | refine rw_end ?_ | (refine rw_nil ?_; show CW _ _ _ _ _ _) | refine rw_nil ?_
        repeat refine cw_seq ?_
        refine cw_true rfl ?_
        repeat refine cw_seq ?_
        refine cw_region ?_
        iterate 2 refine rw_v (op_pure rfl) ?_
        refine rw_v (op_idx Try.underlying30 Try.sizeOf2 rfl rfl sa_A (by omega) (by omega)) ?_
        refine rw_r (op_ldR Try.underlying2 rfl rfl (hR.gr S.out) hget) ?_
        refine rw_v (op_fieldAddr Try.underlying80 rfl Try.sizeOf2 rfl rfl) ?_
        refine rw_storeS (i := 0) S rfl (Try.sizeOf2 _) rfl rfl rfl rfl rfl rfl ?_
        intro w7_ S
        first | refine rw_end ?_ | (refine rw_nil ?_; show CW _ _ _ _ _ _) | refine rw_nil ?_
        repeat refine cw_seq ?_
        refine cw_region ?_
        refine rw_v (op_pure rfl) ?_
        refine rw_v (op_rng rfl (by omega)) ?_
        refine rw_v (op_pure rfl) ?_
        first | refine rw_end ?_ | (refine rw_nil ?_; show CW _ _ _ _ _ _) | refine rw_nil ?_
        exact ⟨m - 1, by omega, i + 1, v, v, by omega, by omega, hpush _ _ (by omega) (by omega), ⟨rfl, rfl, rfl, ie (by omega), trivial⟩, S⟩
      · skip
        repeat refine cw_seq ?_
        refine cw_region ?_
        iterate 2 refine rw_v (op_pure rfl) ?_
        refine rw_v (op_len Try.underlying30 rfl) ?_
        refine rw_v (op_b (b := true) rfl (decide_eq_true (by omega))) ?_
        first | refine rw_end ?_ | (refine rw_nil ?_; show CW _ _ _ _ _ _) | refine rw_nil ?_
        repeat refine cw_seq ?_
        refine cw_true rfl ?_
        repeat refine cw_seq ?_
        refine cw_skip ?_
        try show CW _ _ _ _ _ _
        repeat refine cw_seq ?_
        refine cw_block ?_
        repeat refine cw_seq ?_
        refine cw_draw (C := fun wq => Gr w wq) [0, 1, 2, 3, 4, 5, 6] [] (by kernel_rfl) (by kernel_rfl) (Gr.drew _) ?_
        simp only [pickL, List.drop_succ_cons, List.drop_zero]
        iterate 2 refine rq_v (op_pure rfl) ?_
        refine rq_v (op_idx Try.underlying30 Try.sizeOf2 rfl rfl sa_A (by omega) (by omega)) ?_
        refine rq_r (fun wq hq => op_ldR Try.underlying2 rfl rfl (hR.gr (S.gr hq).out) hget) ?_
        refine rq_v (op_fieldAddr Try.underlying80 rfl Try.sizeOf2 rfl rfl) ?_
        refine rq_r (fun wq hq => op_loadB Try.underlying2 rfl rfl ((S.gr hq).blk (i := 0) rfl) rfl) ?_
        first | refine rq_v (op_b (b := true) rfl (decide_eq_true (by omega))) ?_ | refine rq_v (op_b (b := false) rfl (decide_eq_false (by omega))) ?_ | refine rq_v (op_pure rfl) ?_
        refine rq_nil ?_
        intro w8_ g8_
        have S := S.gr g8_
        first | refine rw_end ?_ | (refine rw_nil ?_; show CW _ _ _ _ _ _) | refine rw_nil ?_
        repeat refine cw_seq ?_
        refine cw_true rfl ?_
        repeat refine cw_seq ?_
        refine cw_region ?_
        iterate 2 refine rw_v (op_pure rfl) ?_
        refine rw_v (op_idx Try.underlying30 Try.sizeOf2 rfl rfl sa_A (by omega) (by omega)) ?_
        refine rw_r (op_ldR Try.underlying2 rfl rfl (hR.gr S.out) hget) ?_
        refine rw_v (op_fieldAddr Try.underlying80 rfl Try.sizeOf2 rfl rfl) ?_
        refine rw_storeS (i := 0) S rfl (Try.sizeOf2 _) rfl rfl rfl rfl rfl rfl ?_
        intro w9_ S
        first | refine rw_end ?_ | (refine rw_nil ?_; show CW _ _ _ _ _ _) | refine rw_nil ?_
        repeat refine cw_seq ?_
        refine cw_draw (C := fun wq => Gr w9_ wq) [0, 1, 2, 3, 4, 5, 6] [] (by kernel_rfl) (by kernel_rfl) (Gr.drew _) ?_
        simp only [pickL, List.drop_succ_cons, List.drop_zero]
        iterate 2 refine rq_v (op_pure rfl) ?_
        refine rq_v (op_idx Try.underlying30 Try.sizeOf2 rfl rfl sa_A (by omega) (by omega)) ?_
        refine rq_r (fun wq hq => op_ldR Try.underlying2 rfl rfl (hR.gr (S.gr hq).out) hget) ?_
        refine rq_v (op_fieldAddr Try.underlying80 rfl Try.sizeOf2 rfl rfl) ?_
        refine rq_r (fun wq hq => op_loadB Try.underlying2 rfl rfl ((S.gr hq).blk (i := 0) rfl) rfl) ?_
        first | refine rq_v (op_b (b := true) rfl (decide_eq_true (by omega))) ?_ | refine rq_v (op_b (b := false) rfl (decide_eq_false (by omega))) ?_ | refine rq_v (op_pure rfl) ?_
        refine rq_nil ?_
        intro w10_ g10_
        have S := S.gr g10_
        first | refine rw_end ?_ | (refine rw_nil ?_; show CW _ _ _ _ _ _) | refine rw_nil ?_
        repeat refine cw_seq ?_
        refine cw_false rfl ?_
        repeat refine cw_seq ?_
        refine cw_skip ?_
        try show CW _ _ _ _ _ _
        repeat refine cw_seq ?_
        refine cw_region ?_
        refine rw_v (op_pure rfl) ?_
        refine rw_v (op_rng rfl (by omega)) ?_
        refine rw_v (op_pure rfl) ?_
        first | refine rw_end ?_ | (refine rw_nil ?_; show CW _ _ _ _ _ _) | refine rw_nil ?_
        exact ⟨m - 1, by omega, i + 1, v, hi, by omega, by omega, hpush _ _ (by omega) (by omega), ⟨rfl, rfl, rfl, ie (by omega), trivial⟩, S⟩
    · by_cases c2 : v > hi
      · skip
        repeat refine cw_seq ?_
        refine cw_region ?_
        iterate 2 refine rw_v (op_pure rfl) ?_
        refine rw_v (op_len Try.underlying30 rfl) ?_
        refine rw_v (op_b (b := true) rfl (decide_eq_true (by omega))) ?_
        first | refine rw_end ?_ | (refine rw_nil ?_; show CW _ _ _ _ _ _) | refine rw_nil ?_
        repeat refine cw_seq ?_
        refine cw_true rfl ?_
        repeat refine cw_seq ?_
        refine cw_skip ?_
        try show CW _ _ _ _ _ _
        repeat refine cw_seq ?_
        refine cw_block ?_
        repeat refine cw_seq ?_
        refine cw_draw (C := fun wq => Gr w wq) [0, 1, 2, 3, 4, 5, 6] [] (by kernel_rfl) (by kernel_rfl) (Gr.drew _) ?_
        simp only [pickL, List.drop_succ_cons, List.drop_zero]
        iterate 2 refine rq_v (op_pure rfl) ?_
        refine rq_v (op_idx Try.underlying30 Try.sizeOf2 rfl rfl sa_A (by omega) (by omega)) ?_
        refine rq_r (fun wq hq => op_ldR Try.underlying2 rfl rfl (hR.gr (S.gr hq).out) hget) ?_
        refine rq_v (op_fieldAddr Try.underlying80 rfl Try.sizeOf2 rfl rfl) ?_
        refine rq_r (fun wq hq => op_loadB Try.underlying2 rfl rfl ((S.gr hq).blk (i := 0) rfl) rfl) ?_
        first | refine rq_v (op_b (b := true) rfl (decide_eq_true (by omega))) ?_ | refine rq_v (op_b (b := false) rfl (decide_eq_false (by omega))) ?_ | refine rq_v (op_pure rfl) ?_
        refine rq_nil ?_
        intro w11_ g11_
        have S := S.gr g11_
        first | refine rw_end ?_ | (refine rw_nil ?_; show CW _ _ _ _ _ _) | refine rw_nil ?_
        repeat refine cw_seq ?_
        refine cw_false rfl ?_
        repeat refine cw_seq ?_
        refine cw_skip ?_
        try show CW _ _ _ _ _ _
        repeat refine cw_seq ?_
        refine cw_draw (C := fun wq => Gr w11_ wq) [0, 1, 2, 3, 4, 5, 6] [] (by kernel_rfl) (by kernel_rfl) (Gr.drew _) ?_
        simp only [pickL, List.drop_succ_cons, List.drop_zero]
        iterate 2 refine rq_v (op_pure rfl) ?_
        refine rq_v (op_idx Try.underlying30 Try.sizeOf2 rfl rfl sa_A (by omega) (by omega)) ?_
        refine rq_r (fun wq hq => op_ldR Try.underlying2 rfl rfl (hR.gr (S.gr hq).out) hget) ?_
        refine rq_v (op_fieldAddr Try.underlying80 rfl Try.sizeOf2 rfl rfl) ?_
        refine rq_r (fun wq hq => op_loadB Try.underlying2 rfl rfl ((S.gr hq).blk (i := 0) rfl) rfl) ?_
        first | refine rq_v (op_b (b := true) rfl (decide_eq_true (by omega))) ?_ | refine rq_v (op_b (b := false) rfl (decide_eq_false (by omega))) ?_ | refine rq_v (op_pure rfl) ?_
        refine rq_nil ?_
        intro w12_ g12_
        have S := S.gr g12_
        first | refine rw_end ?_ | (refine rw_nil ?_; show CW _ _ _ _ _ _) | refine rw_nil ?_
        repeat refine cw_seq ?_
        refine cw_true rfl ?_
        repeat refine cw_seq ?_
        refine cw_region ?_
        iterate 2 refine rw_v (op_pure rfl) ?_
        refine rw_v (op_idx Try.underlying30 Try.sizeOf2 rfl rfl sa_A (by omega) (by omega)) ?_
        refine rw_r (op_ldR Try.underlying2 rfl rfl (hR.gr S.out) hget) ?_
        refine rw_v (op_fieldAddr Try.underlying80 rfl Try.sizeOf2 rfl rfl) ?_
        refine rw_storeS (i := 0) S rfl (Try.sizeOf2 _) rfl rfl rfl rfl rfl rfl ?_
        intro w13_ S
        first | refine rw_end ?_ | (refine rw_nil ?_; show CW _ _ _ _ _ _) | refine rw_nil ?_
        repeat refine cw_seq ?_
        refine cw_region ?_
        refine rw_v (op_pure rfl) ?_
        refine rw_v (op_rng rfl (by omega)) ?_
        refine rw_v (op_pure rfl) ?_
        first | refine rw_end ?_ | (refine rw_nil ?_; show CW _ _ _ _ _ _) | refine rw_nil ?_
        exact ⟨m - 1, by omega, i + 1, lo, v, by omega, by omega, hpush _ _ (by omega) (by omega), ⟨rfl, rfl, rfl, ie (by omega), trivial⟩, S⟩
      · skip
        repeat refine cw_seq ?_
        refine cw_region ?_
        iterate 2 refine rw_v (op_pure rfl) ?_
        refine rw_v (op_len Try.underlying30 rfl) ?_
        refine rw_v (op_b (b := true) rfl (decide_eq_true (by omega))) ?_
        first | refine rw_end ?_ | (refine rw_nil ?_; show CW _ _ _ _ _ _) | refine rw_nil ?_
        repeat refine cw_seq ?_
        refine cw_true rfl ?_
        repeat refine cw_seq ?_
        refine cw_skip ?_
        try show CW _ _ _ _ _ _
        repeat refine cw_seq ?_
        refine cw_block ?_
        repeat refine cw_seq ?_
        refine cw_draw (C := fun wq => Gr w wq) [0, 1, 2, 3, 4, 5, 6] [] (by kernel_rfl) (by kernel_rfl) (Gr.drew _) ?_
        simp only [pickL, List.drop_succ_cons, List.drop_zero]
        iterate 2 refine rq_v (op_pure rfl) ?_
        refine rq_v (op_idx Try.underlying30 Try.sizeOf2 rfl rfl sa_A (by omega) (by omega)) ?_
        refine rq_r (fun wq hq => op_ldR Try.underlying2 rfl rfl (hR.gr (S.gr hq).out) hget) ?_
        refine rq_v (op_fieldAddr Try.underlying80 rfl Try.sizeOf2 rfl rfl) ?_
        refine rq_r (fun wq hq => op_loadB Try.underlying2 rfl rfl ((S.gr hq).blk (i := 0) rfl) rfl) ?_
        first | refine rq_v (op_b (b := true) rfl (decide_eq_true (by omega))) ?_ | refine rq_v (op_b (b := false) rfl (decide_eq_false (by omega))) ?_ | refine rq_v (op_pure rfl) ?_
        refine rq_nil ?_
        intro w14_ g14_
        have S := S.gr g14_
        first | refine rw_end ?_ | (refine rw_nil ?_; show CW _ _ _ _ _ _) | refine rw_nil ?_
        repeat refine cw_seq ?_
        refine cw_false rfl ?_
        repeat refine cw_seq ?_
        refine cw_skip ?_
        try show CW _ _ _ _ _ _
        repeat refine cw_seq ?_
        refine cw_draw (C := fun wq => Gr w14_ wq) [0, 1, 2, 3, 4, 5, 6] [] (by kernel_rfl) (by kernel_rfl) (Gr.drew _) ?_
        simp only [pickL, List.drop_succ_cons, List.drop_zero]
        iterate 2 refine rq_v (op_pure rfl) ?_
        refine rq_v (op_idx Try.underlying30 Try.sizeOf2 rfl rfl sa_A (by omega) (by omega)) ?_
        refine rq_r (fun wq hq => op_ldR Try.underlying2 rfl rfl (hR.gr (S.gr hq).out) hget) ?_
        refine rq_v (op_fieldAddr Try.underlying80 rfl Try.sizeOf2 rfl rfl) ?_
        refine rq_r (fun wq hq => op_loadB Try.underlying2 rfl rfl ((S.gr hq).blk (i := 0) rfl) rfl) ?_
        first | refine rq_v (op_b (b := true) rfl (decide_eq_true (by omega))) ?_ | refine rq_v (op_b (b := false) rfl (decide_eq_false (by omega))) ?_ | refine rq_v (op_pure rfl) ?_
        refine rq_nil ?_
        intro w15_ g15_
        have S := S.gr g15_
        first | refine rw_end ?_ | (refine rw_nil ?_; show CW _ _ _ _ _ _) | refine rw_nil ?_
        repeat refine cw_seq ?_
        refine cw_false rfl ?_
        repeat refine cw_seq ?_
        refine cw_skip ?_
        try show CW _ _ _ _ _ _
        repeat refine cw_seq ?_
        refine cw_region ?_
        refine rw_v (op_pure rfl) ?_
        refine rw_v (op_rng rfl (by omega)) ?_
        refine rw_v (op_pure rfl) ?_
        first | refine rw_end ?_ | (refine rw_nil ?_; show CW _ _ _ _ _ _) | refine rw_nil ?_
        exact ⟨m - 1, by omega, i + 1, lo, hi, by omega, by omega, hpush _ _ (by omega) (by omega), ⟨rfl, rfl, rfl, ie (by omega), trivial⟩, S⟩
  · have ei : i = L.length := by omega
    rw [ei, List.take_length] at hL
    repeat refine cw_seq ?_
    refine cw_region ?_
    iterate 2 refine rw_v (op_pure rfl) ?_
    refine rw_v (op_len Try.underlying30 rfl) ?_
    refine rw_v (op_b (b := false) rfl (decide_eq_false (by omega))) ?_
    first | refine rw_end ?_ | (refine rw_nil ?_; show CW _ _ _ _ _ _) | refine rw_nil ?_
    repeat refine cw_seq ?_
    refine cw_false rfl ?_
    repeat refine cw_seq ?_
    refine cw_exit ?_
    repeat first | refine exit_then ?_ | refine exit_inb ?_
    show CW _ _ _ _ _ _
    repeat refine cw_seq ?_
    refine cw_region ?_
    refine rw_r (op_loadAB Try.underlying80 rfl (Try.sizeOf80 _) rfl (S.blk (i := 0) rfl) rfl rfl) ?_
    refine rw_storeSA (i := 1) S rfl (Try.sizeOf80 _) rfl rfl rfl rfl rfl rfl ?_
    intro w16_ S
    first | refine rw_end ?_ | (refine rw_nil ?_; show CW _ _ _ _ _ _) | refine rw_nil ?_
    repeat refine cw_seq ?_
    refine cw_ret ?_
    repeat first | refine ret_then ?_ | refine ret_inb ?_
    exact resA Try.underlying80 rfl (Try.sizeOf80 _) rfl (S.blk (i := 1) rfl) rfl rfl ⟨lo, hi, rfl, hL, S.out⟩
set_option maxHeartbeats 2000000 in
theorem level46_E (x : Int) (hl : V.length ≤ 1048576) (hA : Rd W A (ints V)) : Fn Try.prog 34 [modV gw gh A V.length cap, .int .i64 x] W (RetNew (fun s => .agg #[.int .i64 gw, .int .i64 gh, s]) 2 1 V.length (ints (lvl V x)) W) := by
  unfold modV
  have hget : ∀ i, i < V.length → (ints V)[(i : Int).toNat * 1]? = some (.int .i64 (V.getD i 0)) := fun i hi => by rw [Nat.mul_one, Int.toNat_natCast]; exact ints_get (getD_at hi)
  have hst : ∀ i, i < V.length → ints ((lvl V x).take (i + 1)) = ints ((lvl V x).take i) ++ [.int .i64 (if V.getD i 0 = x then 1 else 0)] := fun i hi => by
    rw [List.take_add_one, getD_at (V := lvl V x) (by rw [lvl_len]; exact hi), lvl_get hi]
    unfold ints
    rw [List.map_append]
    rfl
  have S := St.start W
  refine Fn_enter Try.func34 rfl Try.results34 Try.ntmps34 (by kernel_rfl) (by kernel_rfl) ?_
  repeat refine cw_seq ?_
  refine cw_region ?_
  refine rw_newB (op_box rfl) S ?_
  intro b_md w2_ g2_ S
  refine rw_newB (op_alloc Try.zeroValue32 rfl) S ?_
  intro b_res w4_ g4_ S
  first | refine rw_end ?_ | (refine rw_nil ?_; show CW _ _ _ _ _ _) | refine rw_nil ?_
  repeat refine cw_seq ?_
  refine cw_region ?_
  refine rw_v (op_fieldAddr Try.underlying32 rfl Try.sizeOf2 rfl rfl) ?_
  refine rw_r (op_loadB Try.underlying2 rfl rfl (S.blk (i := 1) rfl) rfl) ?_
  refine rw_v (op_fieldAddr Try.underlying32 rfl Try.sizeOf2 rfl rfl) ?_
  refine rw_r (op_loadB Try.underlying2 rfl rfl (S.blk (i := 1) rfl) rfl) ?_
  refine rw_v (op_build (pl := [(0, 1), (1, 1), (2, 1)]) Try.underlying32 Try.zeroValue32 (fun w => by kernel_rfl) rfl rfl) ?_
  refine rw_newB (op_alloc Try.zeroValue32 rfl) S ?_
  intro b_ou w6_ g6_ S
  refine rw_storeSA (i := 0) S rfl (Try.sizeOf32 _) rfl rfl rfl rfl rfl rfl ?_
  intro w7_ S
  first | refine rw_end ?_ | (refine rw_nil ?_; show CW _ _ _ _ _ _) | refine rw_nil ?_
  repeat refine cw_seq ?_
  refine cw_region ?_
  refine rw_v (op_pure rfl) ?_
  first | refine rw_end ?_ | (refine rw_nil ?_; show CW _ _ _ _ _ _) | refine rw_nil ?_
  repeat refine cw_seq ?_
  refine cw_block ?_
  repeat refine cw_seq ?_
  have S := S.pushNil 2 1
  refine cw_loop (fun m e w => ∃ (k : Nat) (A2 : Option Addr) (c2 : Nat), k + m = V.length ∧ SL e [(1, .int .i64 x), (2, .pointer (some ⟨b_md, 0, none⟩)), (4, .pointer (some ⟨b_res, 0, none⟩)), (5, .pointer (some ⟨b_ou, 0, none⟩)), (6, .int .i64 k)] ∧
    St No W w [.row 2 1 A2 k c2 (ints ((lvl V x).take k)), .blk b_ou 32 [.int .i64 gw, .int .i64 gh, .slice A2 k c2], .blk b_res 32 [.int .i64 0, .int .i64 0, .slice none 0 0], .blk b_md 32 [.int .i64 gw, .int .i64 gh, .slice A V.length cap]]) V.length
    ⟨0, none, 0, by omega, ⟨rfl, rfl, rfl, rfl, rfl, trivial⟩, S⟩ ?_
  clear S
  rintro m e w ⟨k, A2, c2, hk, hsl, S⟩
  rw [hsl.fold]
  repeat refine cw_seq ?_
  refine cw_region ?_
  refine rw_v (op_pure rfl) ?_
  refine rw_v (op_fieldAddr Try.underlying32 rfl Try.sizeOf30 rfl rfl) ?_
  refine rw_r (op_loadB Try.underlying30 rfl rfl (S.blk (i := 3) rfl) rfl) ?_
  refine rw_v (op_len Try.underlying30 rfl) ?_
  refine rw_v (op_pure rfl) ?_
  first | refine rw_end ?_ | (refine rw_nil ?_; show CW _ _ _ _ _ _) | refine rw_nil ?_
  repeat refine cw_seq ?_
  refine cw_cond rfl (fun hc => ?_) (fun hc => ?_)
  · try simp only [decide_eq_true_eq, decide_eq_false_iff_not, beq_iff_eq, bne_iff_ne, beq_eq_false_iff_ne, bne_eq_false_iff_eq, Bool.not_eq_true', Bool.not_eq_false', ne_eq, Decidable.not_not, Int.natCast_inj, Int.ofNat_lt, Int.ofNat_le, gt_iff_lt, ge_iff_le, Int.not_lt, Int.not_le] at hc
    have hkn : k < V.length := by omega
    have sa_A : SomeA A := hA.someA (by rw [ints_len]; omega)
    have hsk := hst k hkn
    by_cases he : V.getD k 0 = x
    · rw [if_pos he] at hsk
      repeat refine cw_seq ?_
      refine cw_skip ?_
      try show CW _ _ _ _ _ _
      repeat refine cw_seq ?_
      refine cw_block ?_
      repeat refine cw_seq ?_
      refine cw_region ?_
      refine rw_v (op_fieldAddr Try.underlying32 rfl Try.sizeOf30 rfl rfl) ?_
      refine rw_r (op_loadB Try.underlying30 rfl rfl (S.blk (i := 3) rfl) rfl) ?_
      refine rw_v (op_pure rfl) ?_
      refine rw_v (op_idx Try.underlying30 Try.sizeOf2 rfl rfl sa_A (by omega) (by omega)) ?_
      refine rw_r (op_ldR Try.underlying2 rfl rfl (hA.gr S.out) (hget k hkn)) ?_
      refine rw_v (op_pure rfl) ?_
      refine rw_v (op_b (b := true) rfl (beq_iff_eq.2 (by omega))) ?_
      first | refine rw_end ?_ | (refine rw_nil ?_; show CW _ _ _ _ _ _) | refine rw_nil ?_
      repeat refine cw_seq ?_
      refine cw_true rfl ?_
      repeat refine cw_seq ?_
      refine cw_region ?_
      refine rw_v (op_fieldAddr Try.underlying32 rfl Try.sizeOf30 rfl rfl) ?_
      refine rw_r (op_loadB Try.underlying30 rfl rfl (S.blk (i := 1) rfl) rfl) ?_
      refine rw_buildS Try.underlying30 Try.sizeOf2 Try.zeroValue2 rfl rfl rfl rfl rfl rfl S ?_
      intro A_a4 w9_ g9_ S sa_a4
      refine rw_appS (i := 1) S rfl (fun h => rfl) Try.underlying30 info_t2 rfl rfl rfl rfl (by simp) (by omega) (S.rd (i := 0) rfl) rfl (by omega) ?_
      intro A_a5 c_a5 w10_ S sa_mr
      refine rw_v (op_fieldAddr Try.underlying32 rfl Try.sizeOf30 rfl rfl) ?_
      refine rw_storeS (i := 2) S rfl (Try.sizeOf30 _) rfl rfl rfl rfl rfl rfl ?_
      intro w11_ S
      first | refine rw_end ?_ | (refine rw_nil ?_; show CW _ _ _ _ _ _) | refine rw_nil ?_
      repeat refine cw_seq ?_
      refine cw_region ?_
      refine rw_v (op_pure rfl) ?_
      refine rw_v (op_rng rfl (by omega)) ?_
      refine rw_v (op_pure rfl) ?_
      first | refine rw_end ?_ | (refine rw_nil ?_; show CW _ _ _ _ _ _) | refine rw_nil ?_
      have S := S.sub (.cons _ (.cons_cons _ (.cons_cons _ (.cons_cons _ (.cons_cons _ (.slnil))))))
      exact ⟨m - 1, by omega, k + 1, A_a5, c_a5, by omega, ⟨rfl, rfl, rfl, rfl, ie (by omega), trivial⟩, by rw [hsk]; exact S⟩
    · rw [if_neg he] at hsk
      repeat refine cw_seq ?_
      refine cw_skip ?_
      try show CW _ _ _ _ _ _
      repeat refine cw_seq ?_
      refine cw_block ?_
      repeat refine cw_seq ?_
      refine cw_region ?_
      refine rw_v (op_fieldAddr Try.underlying32 rfl Try.sizeOf30 rfl rfl) ?_
      refine rw_r (op_loadB Try.underlying30 rfl rfl (S.blk (i := 3) rfl) rfl) ?_
      refine rw_v (op_pure rfl) ?_
      refine rw_v (op_idx Try.underlying30 Try.sizeOf2 rfl rfl sa_A (by omega) (by omega)) ?_
      refine rw_r (op_ldR Try.underlying2 rfl rfl (hA.gr S.out) (hget k hkn)) ?_
      refine rw_v (op_pure rfl) ?_
      refine rw_v (op_b (b := false) rfl (beq_eq_false_iff_ne.2 (by omega))) ?_
      first | refine rw_end ?_ | (refine rw_nil ?_; show CW _ _ _ _ _ _) | refine rw_nil ?_
      repeat refine cw_seq ?_
      refine cw_false rfl ?_
      repeat refine cw_seq ?_
      refine cw_region ?_
      refine rw_v (op_fieldAddr Try.underlying32 rfl Try.sizeOf30 rfl rfl) ?_
      refine rw_r (op_loadB Try.underlying30 rfl rfl (S.blk (i := 1) rfl) rfl) ?_
      refine rw_buildS Try.underlying30 Try.sizeOf2 Try.zeroValue2 rfl rfl rfl rfl rfl rfl S ?_
      intro A_a4 w13_ g13_ S sa_a4
      refine rw_appS (i := 1) S rfl (fun h => rfl) Try.underlying30 info_t2 rfl rfl rfl rfl (by simp) (by omega) (S.rd (i := 0) rfl) rfl (by omega) ?_
      intro A_a5 c_a5 w14_ S sa_mr
      refine rw_v (op_fieldAddr Try.underlying32 rfl Try.sizeOf30 rfl rfl) ?_
      refine rw_storeS (i := 2) S rfl (Try.sizeOf30 _) rfl rfl rfl rfl rfl rfl ?_
      intro w15_ S
      first | refine rw_end ?_ | (refine rw_nil ?_; show CW _ _ _ _ _ _) | refine rw_nil ?_
      repeat refine cw_seq ?_
      refine cw_region ?_
      refine rw_v (op_pure rfl) ?_
      refine rw_v (op_rng rfl (by omega)) ?_
      refine rw_v (op_pure rfl) ?_
      first | refine rw_end ?_ | (refine rw_nil ?_; show CW _ _ _ _ _ _) | refine rw_nil ?_
      have S := S.sub (.cons _ (.cons_cons _ (.cons_cons _ (.cons_cons _ (.cons_cons _ (.slnil))))))
      exact ⟨m - 1, by omega, k + 1, A_a5, c_a5, by omega, ⟨rfl, rfl, rfl, rfl, ie (by omega), trivial⟩, by rw [hsk]; exact S⟩
  · try simp only [decide_eq_true_eq, decide_eq_false_iff_not, beq_iff_eq, bne_iff_ne, beq_eq_false_iff_ne, bne_eq_false_iff_eq, Bool.not_eq_true', Bool.not_eq_false', ne_eq, Decidable.not_not, Int.natCast_inj, Int.ofNat_lt, Int.ofNat_le, gt_iff_lt, ge_iff_le, Int.not_lt, Int.not_le] at hc
    obtain rfl : k = V.length := by omega
    rw [List.take_of_length_le (by rw [lvl_len]; exact Nat.le_refl _)] at S
    repeat refine cw_seq ?_
    refine cw_exit ?_
    repeat first | refine exit_then ?_ | refine exit_inb ?_
    show CW _ _ _ _ _ _
    repeat refine cw_seq ?_
    refine cw_region ?_
    refine rw_r (op_loadAB Try.underlying32 rfl (Try.sizeOf32 _) rfl (S.blk (i := 1) rfl) rfl rfl) ?_
    refine rw_storeSA (i := 2) S rfl (Try.sizeOf32 _) rfl rfl rfl rfl rfl rfl ?_
    intro w16_ S
    first | refine rw_end ?_ | (refine rw_nil ?_; show CW _ _ _ _ _ _) | refine rw_nil ?_
    repeat refine cw_seq ?_
    refine cw_ret ?_
    repeat first | refine ret_then ?_ | refine ret_inb ?_
    exact resA Try.underlying32 rfl (Try.sizeOf32 _) rfl (S.blk (i := 2) rfl) rfl rfl (S.retNew (i := 0) (mk := fun s => .agg #[.int .i64 gw, .int .i64 gh, s]) rfl)
end
end Go.Proofs.Ytiidmiebckkloaa
/- hachureref46.key: its contract; plateaus by labels. -/
namespace Go.Proofs.Ytiidmiebckkloaa
open Go.RowKit
set_option linter.unusedVariables false
set_option linter.unusedSimpArgs false
set_option maxRecDepth 100000

section
variable {gw gh : Nat} {V : List Int} {q : Nat}
theorem conn_val {t : Int} {i j : Nat} (c : Conn gw V t i j) : i < V.length → t ≤ V.getD i 0 → ∃ x, x < V.length ∧ t ≤ V.getD x 0 ∧ V.getD x 0 ≤ V.getD i 0 ∧ Conn gw V (V.getD x 0) i j := by
  induction c with
  | refl i => exact fun hi ht => ⟨i, hi, ht, Int.le_refl _, .refl i⟩
  | @step i k j a _ ih =>
    intro hi ht
    obtain ⟨_, hk, _, vk, s⟩ := a
    obtain ⟨x, hx, h1, h2, c⟩ := ih hk vk
    rcases Int.le_total (V.getD x 0) (V.getD i 0) with h | h
    · exact ⟨x, hx, h1, h, .step ⟨hi, hk, h, h2, s⟩ c⟩
    · exact ⟨i, hi, ht, Int.le_refl _, .step ⟨hi, hk, Int.le_refl _, Int.le_trans h h2, s⟩ (c.lower h)⟩
theorem HiC.val {t : Int} (hq : q < V.length) (h : HiC gw V t q) : ∃ x, x < V.length ∧ t ≤ V.getD x 0 ∧ HiC gw V (V.getD x 0) q := by
  have hle := h.le
  obtain ⟨j, hj, c, hv⟩ := h
  obtain ⟨x, hx, h1, _, c'⟩ := conn_val c hq hle
  exact ⟨x, hx, h1, j, hj, c', hv⟩
/-- what the key is after so many cells -/
structure KeyI (gw : Nat) (V : List Int) (q k : Nat) (b : Int) (f : Bool) : Prop where
  yes : f = true → HiC gw V b q
  all : ∀ j, j < k → HiC gw V (V.getD j 0) q → f = true ∧ V.getD j 0 ≤ b
theorem KeyI.start : KeyI gw V q 0 0 false := ⟨fun h => (by cases h), fun j hj => by omega⟩
theorem KeyI.skip {k : Nat} {b : Int} {f : Bool} (h : KeyI gw V q k b f) (hs : V.getD q 0 < V.getD k 0 ∨ (f = true ∧ V.getD k 0 ≤ b)) : KeyI gw V q (k + 1) b f :=
  ⟨h.yes, fun j hj hc => by
    by_cases e : j = k
    · subst e
      rcases hs with hs | hs
      · have := hc.le; omega
      · exact hs
    · exact h.all j (by omega) hc⟩
theorem KeyI.hit {k : Nat} {b : Int} {f : Bool} (h : KeyI gw V q k b f) (hs : ¬ (f = true ∧ V.getD k 0 ≤ b)) (hc : HiC gw V (V.getD k 0) q) : KeyI gw V q (k + 1) (V.getD k 0) true :=
  ⟨fun _ => hc, fun j hj hj2 => by
    by_cases e : j = k
    · subst e; exact ⟨rfl, Int.le_refl _⟩
    · obtain ⟨h1, h2⟩ := h.all j (by omega) hj2
      refine ⟨rfl, ?_⟩
      have : ¬ V.getD k 0 ≤ b := fun h3 => hs ⟨h1, h3⟩
      omega⟩
theorem KeyI.miss {k : Nat} {b : Int} {f : Bool} (h : KeyI gw V q k b f) (hc : ¬ HiC gw V (V.getD k 0) q) : KeyI gw V q (k + 1) b f :=
  ⟨h.yes, fun j hj hj2 => by
    by_cases e : j = k
    · subst e; exact absurd hj2 hc
    · exact h.all j (by omega) hj2⟩
theorem KeyI.fin {b : Int} {f : Bool} (hq : q < V.length) (h : KeyI gw V q V.length b f) : (f = true → IsKey gw V q b) ∧ (f = false → ∀ t, ¬ HiC gw V t q) := by
  refine ⟨fun e => ⟨h.yes e, fun t ht hc => ?_⟩, fun e t hc => ?_⟩
  · obtain ⟨x, hx, h1, h2⟩ := hc.val hq
    have := (h.all x hx h2).2
    omega
  · obtain ⟨x, hx, h1, h2⟩ := hc.val hq
    have := (h.all x hx h2).1
    rw [e] at this; cases this
end
section
variable {W : World} {A : Option Addr} {gw gh cap : Nat} {V : List Int}
set_option maxHeartbeats 8000000 in
theorem key46_E (q : Nat) (hw : 1 ≤ gw ∧ gw ≤ 1024) (hh : 1 ≤ gh ∧ gh ≤ 1024) (hV : V.length = gw * gh) (hq : q < V.length) (hA : Rd W A (ints V)) :
    Fn Try.prog 36 [modV gw gh A V.length cap, .int .i64 q] W (fun v w' => ∃ b f, v = .tuple #[.int .i64 b, .bool f] ∧ (f = true → IsKey gw V q b) ∧ (f = false → ∀ t, ¬ HiC gw V t q) ∧ Gr W w') := by
  have hm : gw * gh ≤ 1024 * 1024 := Nat.mul_le_mul hw.2 hh.2
  have hoh := fun t w (h : Rd w A (ints V)) => of29_E (W := w) (cap := cap) t hw hh hV (rootC_roots gw V t) h
  unfold modV at hoh ⊢
  have hget : ∀ i, i < V.length → (ints V)[(i : Int).toNat * 1]? = some (.int .i64 (V.getD i 0)) := fun i hi => by rw [Nat.mul_one, Int.toNat_natCast]; exact ints_get (getD_at hi)
  have sa_A : SomeA A := hA.someA (by rw [ints_len]; omega)
  have hgq := hget q hq
  have S := St.start W
  refine Fn_enter Try.func36 rfl Try.results36 Try.ntmps36 (by kernel_rfl) (by kernel_rfl) ?_
  repeat refine cw_seq ?_
  refine cw_region ?_
  refine rw_newB (op_box rfl) S ?_
  intro b_md w2_ g2_ S
  iterate 2 refine rw_v (op_pure rfl) ?_
  first | refine rw_end ?_ | (refine rw_nil ?_; show CW _ _ _ _ _ _) | refine rw_nil ?_
  repeat refine cw_seq ?_
  refine cw_region ?_
  iterate 2 refine rw_v (op_pure rfl) ?_
  first | refine rw_end ?_ | (refine rw_nil ?_; show CW _ _ _ _ _ _) | refine rw_nil ?_
  repeat refine cw_seq ?_
  refine cw_region ?_
  refine rw_v (op_pure rfl) ?_
  first | refine rw_end ?_ | (refine rw_nil ?_; show CW _ _ _ _ _ _) | refine rw_nil ?_
  repeat refine cw_seq ?_
  refine cw_block ?_
  repeat refine cw_seq ?_
  refine cw_loop (fun m e w => ∃ (k : Nat) (b : Int) (f : Bool), k + m = V.length ∧ KeyI gw V q k b f ∧ SL e [(1, .int .i64 q), (2, .pointer (some ⟨b_md, 0, none⟩)), (6, .int .i64 b), (7, .bool f), (8, .int .i64 k)] ∧
    St No W w [.blk b_md 32 [.int .i64 gw, .int .i64 gh, .slice A V.length cap]]) V.length
    ⟨0, 0, false, by omega, KeyI.start, ⟨rfl, rfl, rfl, rfl, rfl, trivial⟩, S⟩ ?_
  clear S
  rintro m e w ⟨k, b, f, hk, hI, hsl, S⟩
  rw [hsl.fold]
  by_cases hkn : k < V.length
  · have hgk := hget k hkn
    by_cases h1 : V.getD q 0 < V.getD k 0
    · skip
      repeat refine cw_seq ?_
      refine cw_region ?_
      refine rw_v (op_pure rfl) ?_
      refine rw_v (op_fieldAddr Try.underlying32 rfl Try.sizeOf30 rfl rfl) ?_
      refine rw_r (op_loadB Try.underlying30 rfl rfl (S.blk (i := 0) rfl) rfl) ?_
      refine rw_v (op_len Try.underlying30 rfl) ?_
      refine rw_v (op_b (b := true) rfl (decide_eq_true (by omega))) ?_
      first | refine rw_end ?_ | (refine rw_nil ?_; show CW _ _ _ _ _ _) | refine rw_nil ?_
      repeat refine cw_seq ?_
      refine cw_true rfl ?_
      repeat refine cw_seq ?_
      refine cw_skip ?_
      try show CW _ _ _ _ _ _
      repeat refine cw_seq ?_
      refine cw_block ?_
      repeat refine cw_seq ?_
      refine cw_region ?_
      refine rw_v (op_fieldAddr Try.underlying32 rfl Try.sizeOf30 rfl rfl) ?_
      refine rw_r (op_loadB Try.underlying30 rfl rfl (S.blk (i := 0) rfl) rfl) ?_
      refine rw_v (op_pure rfl) ?_
      refine rw_v (op_idx Try.underlying30 Try.sizeOf2 rfl rfl sa_A (by omega) (by omega)) ?_
      refine rw_r (op_ldR Try.underlying2 rfl rfl (hA.gr S.out) hgk) ?_
      refine rw_v (op_pure rfl) ?_
      first | refine rw_end ?_ | (refine rw_nil ?_; show CW _ _ _ _ _ _) | refine rw_nil ?_
      repeat refine cw_seq ?_
      refine cw_region ?_
      refine rw_v (op_pure rfl) ?_
      refine rw_v (op_fieldAddr Try.underlying32 rfl Try.sizeOf30 rfl rfl) ?_
      refine rw_r (op_loadB Try.underlying30 rfl rfl (S.blk (i := 0) rfl) rfl) ?_
      refine rw_v (op_pure rfl) ?_
      refine rw_v (op_idx Try.underlying30 Try.sizeOf2 rfl rfl sa_A (by omega) (by omega)) ?_
      refine rw_r (op_ldR Try.underlying2 rfl rfl (hA.gr S.out) hgq) ?_
      refine rw_v (op_b (b := true) rfl (decide_eq_true (by omega))) ?_
      refine rw_v (op_pure rfl) ?_
      refine rw_off rfl ?_
      refine rw_off rfl ?_
      refine rw_off rfl ?_
      refine rw_off rfl ?_
      refine rw_off rfl ?_
      refine rw_off rfl ?_
      refine rw_v (op_pure rfl) ?_
      first | refine rw_end ?_ | (refine rw_nil ?_; show CW _ _ _ _ _ _) | refine rw_nil ?_
      repeat refine cw_seq ?_
      refine cw_true rfl ?_
      repeat refine cw_seq ?_
      refine cw_exit ?_
      repeat first | refine exit_then ?_ | refine exit_inb ?_
      show CW _ _ _ _ _ _
      repeat refine cw_seq ?_
      refine cw_region ?_
      refine rw_v (op_pure rfl) ?_
      refine rw_v (op_rng rfl (by omega)) ?_
      refine rw_v (op_pure rfl) ?_
      first | refine rw_end ?_ | (refine rw_nil ?_; show CW _ _ _ _ _ _) | refine rw_nil ?_
      exact ⟨m - 1, by omega, k + 1, b, f, by omega, hI.skip (.inl h1), ⟨rfl, rfl, rfl, rfl, ie (by omega), trivial⟩, S⟩
    · by_cases h2 : f = true ∧ V.getD k 0 ≤ b
      · obtain ⟨hf, h3⟩ := h2
        subst hf
        repeat refine cw_seq ?_
        refine cw_region ?_
        refine rw_v (op_pure rfl) ?_
        refine rw_v (op_fieldAddr Try.underlying32 rfl Try.sizeOf30 rfl rfl) ?_
        refine rw_r (op_loadB Try.underlying30 rfl rfl (S.blk (i := 0) rfl) rfl) ?_
        refine rw_v (op_len Try.underlying30 rfl) ?_
        refine rw_v (op_b (b := true) rfl (decide_eq_true (by omega))) ?_
        first | refine rw_end ?_ | (refine rw_nil ?_; show CW _ _ _ _ _ _) | refine rw_nil ?_
        repeat refine cw_seq ?_
        refine cw_true rfl ?_
        repeat refine cw_seq ?_
        refine cw_skip ?_
        try show CW _ _ _ _ _ _
        repeat refine cw_seq ?_
        refine cw_block ?_
        repeat refine cw_seq ?_
        refine cw_region ?_
        refine rw_v (op_fieldAddr Try.underlying32 rfl Try.sizeOf30 rfl rfl) ?_
        refine rw_r (op_loadB Try.underlying30 rfl rfl (S.blk (i := 0) rfl) rfl) ?_
        refine rw_v (op_pure rfl) ?_
        refine rw_v (op_idx Try.underlying30 Try.sizeOf2 rfl rfl sa_A (by omega) (by omega)) ?_
        refine rw_r (op_ldR Try.underlying2 rfl rfl (hA.gr S.out) hgk) ?_
        refine rw_v (op_pure rfl) ?_
        first | refine rw_end ?_ | (refine rw_nil ?_; show CW _ _ _ _ _ _) | refine rw_nil ?_
        repeat refine cw_seq ?_
        refine cw_region ?_
        refine rw_v (op_pure rfl) ?_
        refine rw_v (op_fieldAddr Try.underlying32 rfl Try.sizeOf30 rfl rfl) ?_
        refine rw_r (op_loadB Try.underlying30 rfl rfl (S.blk (i := 0) rfl) rfl) ?_
        refine rw_v (op_pure rfl) ?_
        refine rw_v (op_idx Try.underlying30 Try.sizeOf2 rfl rfl sa_A (by omega) (by omega)) ?_
        refine rw_r (op_ldR Try.underlying2 rfl rfl (hA.gr S.out) hgq) ?_
        refine rw_v (op_b (b := false) rfl (decide_eq_false (by omega))) ?_
        refine rw_v (op_pure rfl) ?_
        refine rw_on rfl ?_
        refine rw_v (op_pure rfl) ?_
        refine rw_on rfl ?_
        refine rw_v (op_pure rfl) ?_
        refine rw_on rfl ?_
        refine rw_v (op_pure rfl) ?_
        refine rw_on rfl ?_
        refine rw_v (op_pure rfl) ?_
        refine rw_on rfl ?_
        refine rw_v (op_b (b := true) rfl (decide_eq_true (by omega))) ?_
        refine rw_on rfl ?_
        iterate 2 refine rw_v (op_pure rfl) ?_
        first | refine rw_end ?_ | (refine rw_nil ?_; show CW _ _ _ _ _ _) | refine rw_nil ?_
        repeat refine cw_seq ?_
        refine cw_true rfl ?_
        repeat refine cw_seq ?_
        refine cw_exit ?_
        repeat first | refine exit_then ?_ | refine exit_inb ?_
        show CW _ _ _ _ _ _
        repeat refine cw_seq ?_
        refine cw_region ?_
        refine rw_v (op_pure rfl) ?_
        refine rw_v (op_rng rfl (by omega)) ?_
        refine rw_v (op_pure rfl) ?_
        first | refine rw_end ?_ | (refine rw_nil ?_; show CW _ _ _ _ _ _) | refine rw_nil ?_
        exact ⟨m - 1, by omega, k + 1, b, true, by omega, hI.skip (.inr ⟨rfl, h3⟩), ⟨rfl, rfl, rfl, rfl, ie (by omega), trivial⟩, S⟩
      · skip
        repeat refine cw_seq ?_
        refine cw_region ?_
        refine rw_v (op_pure rfl) ?_
        refine rw_v (op_fieldAddr Try.underlying32 rfl Try.sizeOf30 rfl rfl) ?_
        refine rw_r (op_loadB Try.underlying30 rfl rfl (S.blk (i := 0) rfl) rfl) ?_
        refine rw_v (op_len Try.underlying30 rfl) ?_
        refine rw_v (op_b (b := true) rfl (decide_eq_true (by omega))) ?_
        first | refine rw_end ?_ | (refine rw_nil ?_; show CW _ _ _ _ _ _) | refine rw_nil ?_
        repeat refine cw_seq ?_
        refine cw_true rfl ?_
        repeat refine cw_seq ?_
        refine cw_skip ?_
        try show CW _ _ _ _ _ _
        repeat refine cw_seq ?_
        refine cw_block ?_
        repeat refine cw_seq ?_
        refine cw_region ?_
        refine rw_v (op_fieldAddr Try.underlying32 rfl Try.sizeOf30 rfl rfl) ?_
        refine rw_r (op_loadB Try.underlying30 rfl rfl (S.blk (i := 0) rfl) rfl) ?_
        refine rw_v (op_pure rfl) ?_
        refine rw_v (op_idx Try.underlying30 Try.sizeOf2 rfl rfl sa_A (by omega) (by omega)) ?_
        refine rw_r (op_ldR Try.underlying2 rfl rfl (hA.gr S.out) hgk) ?_
        refine rw_v (op_pure rfl) ?_
        first | refine rw_end ?_ | (refine rw_nil ?_; show CW _ _ _ _ _ _) | refine rw_nil ?_
        repeat refine cw_seq ?_
        refine cw_cutT (M := fun e w => SL e [(1, .int .i64 q), (2, .pointer (some ⟨b_md, 0, none⟩)), (6, .int .i64 b), (7, .bool f), (8, .int .i64 k), (9, .int .i64 (V.getD k 0)), (39, .bool false)] ∧ St No W w [.blk b_md 32 [.int .i64 gw, .int .i64 gh, .slice A V.length cap]]) ?_ ?_
        · cases f with
          | false =>
            repeat refine cw_seq ?_
            refine cw_region ?_
            refine rw_v (op_pure rfl) ?_
            refine rw_v (op_fieldAddr Try.underlying32 rfl Try.sizeOf30 rfl rfl) ?_
            refine rw_r (op_loadB Try.underlying30 rfl rfl (S.blk (i := 0) rfl) rfl) ?_
            refine rw_v (op_pure rfl) ?_
            refine rw_v (op_idx Try.underlying30 Try.sizeOf2 rfl rfl sa_A (by omega) (by omega)) ?_
            refine rw_r (op_ldR Try.underlying2 rfl rfl (hA.gr S.out) hgq) ?_
            refine rw_v (op_b (b := false) rfl (decide_eq_false (by omega))) ?_
            refine rw_v (op_pure rfl) ?_
            refine rw_on rfl ?_
            refine rw_v (op_pure rfl) ?_
            refine rw_on rfl ?_
            refine rw_v (op_pure rfl) ?_
            refine rw_off rfl ?_
            refine rw_off rfl ?_
            refine rw_off rfl ?_
            refine rw_on rfl ?_
            iterate 2 refine rw_v (op_pure rfl) ?_
            first | refine rw_end ?_ | (refine rw_nil ?_; show CW _ _ _ _ _ _) | refine rw_nil ?_
            exact ⟨⟨rfl, rfl, rfl, rfl, rfl, rfl, rfl, trivial⟩, S⟩
          | true =>
            have h3 : ¬ V.getD k 0 ≤ b := fun h => h2 ⟨rfl, h⟩
            repeat refine cw_seq ?_
            refine cw_region ?_
            refine rw_v (op_pure rfl) ?_
            refine rw_v (op_fieldAddr Try.underlying32 rfl Try.sizeOf30 rfl rfl) ?_
            refine rw_r (op_loadB Try.underlying30 rfl rfl (S.blk (i := 0) rfl) rfl) ?_
            refine rw_v (op_pure rfl) ?_
            refine rw_v (op_idx Try.underlying30 Try.sizeOf2 rfl rfl sa_A (by omega) (by omega)) ?_
            refine rw_r (op_ldR Try.underlying2 rfl rfl (hA.gr S.out) hgq) ?_
            refine rw_v (op_b (b := false) rfl (decide_eq_false (by omega))) ?_
            refine rw_v (op_pure rfl) ?_
            refine rw_on rfl ?_
            refine rw_v (op_pure rfl) ?_
            refine rw_on rfl ?_
            refine rw_v (op_pure rfl) ?_
            refine rw_on rfl ?_
            refine rw_v (op_pure rfl) ?_
            refine rw_on rfl ?_
            refine rw_v (op_pure rfl) ?_
            refine rw_on rfl ?_
            refine rw_v (op_b (b := false) rfl (decide_eq_false (by omega))) ?_
            refine rw_on rfl ?_
            iterate 2 refine rw_v (op_pure rfl) ?_
            first | refine rw_end ?_ | (refine rw_nil ?_; show CW _ _ _ _ _ _) | refine rw_nil ?_
            exact ⟨⟨rfl, rfl, rfl, rfl, rfl, rfl, rfl, trivial⟩, S⟩
        · clear S
          rintro e w ⟨hsl, S⟩
          rw [hsl.fold]
          have hro := rootC_roots gw V (V.getD k 0)
          have hlab := hi_lab hro hq (show V.getD k 0 ≤ V.getD q 0 by omega)
          have hoh := hoh (V.getD k 0)
          generalize rootC gw V (V.getD k 0) = r at *
          have hpq : 0 < labF V (V.getD k 0) r q := lab_pos.2 (by omega)
          generalize hT : V.getD k 0 = T at *
          have hgl : ∀ i, i < V.length → (cellsN V.length (labF V T r))[(i : Int).toNat * 1]? = some (.int .i64 (labF V T r i : Nat)) := fun i hi => by rw [Nat.mul_one, Int.toNat_natCast]; exact cellsN_get hi
          repeat refine cw_seq ?_
          refine cw_false rfl ?_
          repeat refine cw_seq ?_
          refine cw_skip ?_
          try show CW _ _ _ _ _ _
          repeat refine cw_seq ?_
          refine cw_region ?_
          refine rw_r (op_loadAB Try.underlying32 rfl (Try.sizeOf32 _) rfl (S.blk (i := 0) rfl) rfl rfl) ?_
          refine rw_v (op_pure rfl) ?_
          refine rw_call rfl (hoh w (hA.gr S.out)) ?_
          rintro _ w3_ ⟨A_lb, c_lb, A_pt, c_pt, rfl, hR1, hR2, hf1, hf2, g3_⟩
          have S := S.pushRow hR1 hf1 g3_
          iterate 5 refine rw_v (op_pure rfl) ?_
          first | refine rw_end ?_ | (refine rw_nil ?_; show CW _ _ _ _ _ _) | refine rw_nil ?_
          repeat refine cw_seq ?_
          refine cw_region ?_
          refine rw_v (op_pure rfl) ?_
          first | refine rw_end ?_ | (refine rw_nil ?_; show CW _ _ _ _ _ _) | refine rw_nil ?_
          repeat refine cw_seq ?_
          refine cw_block ?_
          repeat refine cw_seq ?_
          refine cw_loop (fun m2 e w => ∃ (i : Nat) (hit : Bool), i + m2 = V.length ∧ (hit = true ↔ ∃ i', i' < i ∧ labF V T r i' = labF V T r q ∧ V.getD q 0 < V.getD i' 0) ∧ SL e [(1, .int .i64 q), (2, .pointer (some ⟨b_md, 0, none⟩)), (6, .int .i64 (if hit = true then T else b)), (7, .bool (if hit = true then true else f)), (8, .int .i64 k), (9, .int .i64 T), (10, .slice A_lb V.length c_lb), (12, .int .i64 i)] ∧
            St No W w [.row 2 1 A_lb V.length c_lb (cellsN V.length (labF V T r)), .blk b_md 32 [.int .i64 gw, .int .i64 gh, .slice A V.length cap]]) V.length
            ⟨0, false, by omega, ⟨fun h => (by cases h), fun ⟨i', h, _⟩ => by omega⟩, ⟨rfl, rfl, rfl, rfl, rfl, rfl, rfl, rfl, trivial⟩, S⟩ ?_
          clear S
          rintro m2 e2 w2 ⟨i, hit, hi, hh2, hsl2, S⟩
          rw [hsl2.fold]
          have sa_lb : SomeA A_lb := (S.row (i := 0) rfl).someA (by omega)
          by_cases hin : i < V.length
          · have hgi := hget i hin
            have hgli := hgl i hin
            have hglq := hgl q hq
            have hkeep : ¬ (labF V T r i = labF V T r q ∧ V.getD q 0 < V.getD i 0) → (hit = true ↔ ∃ i', i' < i + 1 ∧ labF V T r i' = labF V T r q ∧ V.getD q 0 < V.getD i' 0) := fun hno => by
              rw [hh2]
              exact ⟨fun ⟨i', h, h2⟩ => ⟨i', by omega, h2⟩, fun ⟨i', h, h2⟩ => ⟨i', by
                by_cases e : i' = i
                · subst e; exact absurd h2 hno
                · omega, h2⟩⟩
            by_cases he : labF V T r i = labF V T r q
            · by_cases hv : V.getD q 0 < V.getD i 0
              · skip
                repeat refine cw_seq ?_
                refine cw_region ?_
                refine rw_v (op_pure rfl) ?_
                refine rw_v (op_fieldAddr Try.underlying32 rfl Try.sizeOf30 rfl rfl) ?_
                refine rw_r (op_loadB Try.underlying30 rfl rfl (S.blk (i := 1) rfl) rfl) ?_
                refine rw_v (op_len Try.underlying30 rfl) ?_
                refine rw_v (op_b (b := true) rfl (decide_eq_true (by omega))) ?_
                first | refine rw_end ?_ | (refine rw_nil ?_; show CW _ _ _ _ _ _) | refine rw_nil ?_
                repeat refine cw_seq ?_
                refine cw_true rfl ?_
                repeat refine cw_seq ?_
                refine cw_skip ?_
                try show CW _ _ _ _ _ _
                repeat refine cw_seq ?_
                refine cw_block ?_
                repeat refine cw_seq ?_
                refine cw_draw (C := fun wq => Gr w2 wq) [0, 1, 2, 3, 4, 5, 6, 7, 8, 9, 10, 11, 12, 13, 14, 15, 16, 17, 18, 19, 20, 21] [] (by kernel_rfl) (by kernel_rfl) (Gr.drew _) ?_
                simp only [pickL, List.drop_succ_cons, List.drop_zero]
                iterate 2 refine rq_v (op_pure rfl) ?_
                refine rq_v (op_idx Try.underlying30 Try.sizeOf2 rfl rfl sa_lb (by omega) (by omega)) ?_
                refine rq_r (fun wq hq => op_ldR Try.underlying2 rfl rfl ((S.gr hq).rd (i := 0) rfl) hgli) ?_
                iterate 2 refine rq_v (op_pure rfl) ?_
                refine rq_v (op_idx Try.underlying30 Try.sizeOf2 rfl rfl sa_lb (by omega) (by omega)) ?_
                refine rq_r (fun wq hq => op_ldR Try.underlying2 rfl rfl ((S.gr hq).rd (i := 0) rfl) hglq) ?_
                refine rq_v (op_b (b := true) rfl (beq_iff_eq.2 (by omega))) ?_
                refine rq_v (op_pure rfl) ?_
                refine rq_on rfl ?_
                refine rq_v (op_fieldAddr Try.underlying32 rfl Try.sizeOf30 rfl rfl) ?_
                refine rq_on rfl ?_
                refine rq_r (fun wq hq => op_loadB Try.underlying30 rfl rfl ((S.gr hq).blk (i := 1) rfl) rfl) ?_
                refine rq_on rfl ?_
                refine rq_v (op_pure rfl) ?_
                refine rq_on rfl ?_
                refine rq_v (op_idx Try.underlying30 Try.sizeOf2 rfl rfl sa_A (by omega) (by omega)) ?_
                refine rq_on rfl ?_
                refine rq_r (fun wq hq => op_ldR Try.underlying2 rfl rfl (hA.gr (S.gr hq).out) hgi) ?_
                refine rq_on rfl ?_
                refine rq_v (op_fieldAddr Try.underlying32 rfl Try.sizeOf30 rfl rfl) ?_
                refine rq_on rfl ?_
                refine rq_r (fun wq hq => op_loadB Try.underlying30 rfl rfl ((S.gr hq).blk (i := 1) rfl) rfl) ?_
                refine rq_on rfl ?_
                refine rq_v (op_pure rfl) ?_
                refine rq_on rfl ?_
                refine rq_v (op_idx Try.underlying30 Try.sizeOf2 rfl rfl sa_A (by omega) (by omega)) ?_
                refine rq_on rfl ?_
                refine rq_r (fun wq hq => op_ldR Try.underlying2 rfl rfl (hA.gr (S.gr hq).out) hgq) ?_
                refine rq_on rfl ?_
                refine rq_v (op_b (b := true) rfl (decide_eq_true (by omega))) ?_
                refine rq_v (op_pure rfl) ?_
                refine rq_nil ?_
                intro w4_ g4_
                have S := S.gr g4_
                first | refine rw_end ?_ | (refine rw_nil ?_; show CW _ _ _ _ _ _) | refine rw_nil ?_
                repeat refine cw_seq ?_
                refine cw_true rfl ?_
                repeat refine cw_seq ?_
                refine cw_region ?_
                iterate 2 refine rw_v (op_pure rfl) ?_
                first | refine rw_end ?_ | (refine rw_nil ?_; show CW _ _ _ _ _ _) | refine rw_nil ?_
                repeat refine cw_seq ?_
                refine cw_region ?_
                refine rw_v (op_pure rfl) ?_
                first | refine rw_end ?_ | (refine rw_nil ?_; show CW _ _ _ _ _ _) | refine rw_nil ?_
                repeat refine cw_seq ?_
                refine cw_region ?_
                refine rw_v (op_pure rfl) ?_
                refine rw_v (op_rng rfl (by omega)) ?_
                refine rw_v (op_pure rfl) ?_
                first | refine rw_end ?_ | (refine rw_nil ?_; show CW _ _ _ _ _ _) | refine rw_nil ?_
                exact ⟨m2 - 1, by omega, i + 1, true, by omega, ⟨fun _ => ⟨i, by omega, he, hv⟩, fun _ => rfl⟩, ⟨rfl, rfl, rfl, rfl, rfl, rfl, rfl, ie (by omega), trivial⟩, S⟩
              · skip
                repeat refine cw_seq ?_
                refine cw_region ?_
                refine rw_v (op_pure rfl) ?_
                refine rw_v (op_fieldAddr Try.underlying32 rfl Try.sizeOf30 rfl rfl) ?_
                refine rw_r (op_loadB Try.underlying30 rfl rfl (S.blk (i := 1) rfl) rfl) ?_
                refine rw_v (op_len Try.underlying30 rfl) ?_
                refine rw_v (op_b (b := true) rfl (decide_eq_true (by omega))) ?_
                first | refine rw_end ?_ | (refine rw_nil ?_; show CW _ _ _ _ _ _) | refine rw_nil ?_
                repeat refine cw_seq ?_
                refine cw_true rfl ?_
                repeat refine cw_seq ?_
                refine cw_skip ?_
                try show CW _ _ _ _ _ _
                repeat refine cw_seq ?_
                refine cw_block ?_
                repeat refine cw_seq ?_
                refine cw_draw (C := fun wq => Gr w2 wq) [0, 1, 2, 3, 4, 5, 6, 7, 8, 9, 10, 11, 12, 13, 14, 15, 16, 17, 18, 19, 20, 21] [] (by kernel_rfl) (by kernel_rfl) (Gr.drew _) ?_
                simp only [pickL, List.drop_succ_cons, List.drop_zero]
                iterate 2 refine rq_v (op_pure rfl) ?_
                refine rq_v (op_idx Try.underlying30 Try.sizeOf2 rfl rfl sa_lb (by omega) (by omega)) ?_
                refine rq_r (fun wq hq => op_ldR Try.underlying2 rfl rfl ((S.gr hq).rd (i := 0) rfl) hgli) ?_
                iterate 2 refine rq_v (op_pure rfl) ?_
                refine rq_v (op_idx Try.underlying30 Try.sizeOf2 rfl rfl sa_lb (by omega) (by omega)) ?_
                refine rq_r (fun wq hq => op_ldR Try.underlying2 rfl rfl ((S.gr hq).rd (i := 0) rfl) hglq) ?_
                refine rq_v (op_b (b := true) rfl (beq_iff_eq.2 (by omega))) ?_
                refine rq_v (op_pure rfl) ?_
                refine rq_on rfl ?_
                refine rq_v (op_fieldAddr Try.underlying32 rfl Try.sizeOf30 rfl rfl) ?_
                refine rq_on rfl ?_
                refine rq_r (fun wq hq => op_loadB Try.underlying30 rfl rfl ((S.gr hq).blk (i := 1) rfl) rfl) ?_
                refine rq_on rfl ?_
                refine rq_v (op_pure rfl) ?_
                refine rq_on rfl ?_
                refine rq_v (op_idx Try.underlying30 Try.sizeOf2 rfl rfl sa_A (by omega) (by omega)) ?_
                refine rq_on rfl ?_
                refine rq_r (fun wq hq => op_ldR Try.underlying2 rfl rfl (hA.gr (S.gr hq).out) hgi) ?_
                refine rq_on rfl ?_
                refine rq_v (op_fieldAddr Try.underlying32 rfl Try.sizeOf30 rfl rfl) ?_
                refine rq_on rfl ?_
                refine rq_r (fun wq hq => op_loadB Try.underlying30 rfl rfl ((S.gr hq).blk (i := 1) rfl) rfl) ?_
                refine rq_on rfl ?_
                refine rq_v (op_pure rfl) ?_
                refine rq_on rfl ?_
                refine rq_v (op_idx Try.underlying30 Try.sizeOf2 rfl rfl sa_A (by omega) (by omega)) ?_
                refine rq_on rfl ?_
                refine rq_r (fun wq hq => op_ldR Try.underlying2 rfl rfl (hA.gr (S.gr hq).out) hgq) ?_
                refine rq_on rfl ?_
                refine rq_v (op_b (b := false) rfl (decide_eq_false (by omega))) ?_
                refine rq_v (op_pure rfl) ?_
                refine rq_nil ?_
                intro w5_ g5_
                have S := S.gr g5_
                first | refine rw_end ?_ | (refine rw_nil ?_; show CW _ _ _ _ _ _) | refine rw_nil ?_
                repeat refine cw_seq ?_
                refine cw_false rfl ?_
                repeat refine cw_seq ?_
                refine cw_skip ?_
                try show CW _ _ _ _ _ _
                repeat refine cw_seq ?_
                refine cw_region ?_
                refine rw_v (op_pure rfl) ?_
                refine rw_v (op_rng rfl (by omega)) ?_
                refine rw_v (op_pure rfl) ?_
                first | refine rw_end ?_ | (refine rw_nil ?_; show CW _ _ _ _ _ _) | refine rw_nil ?_
                exact ⟨m2 - 1, by omega, i + 1, hit, by omega, hkeep (fun h => hv h.2), ⟨rfl, rfl, rfl, rfl, rfl, rfl, rfl, ie (by omega), trivial⟩, S⟩
            · skip
              repeat refine cw_seq ?_
              refine cw_region ?_
              refine rw_v (op_pure rfl) ?_
              refine rw_v (op_fieldAddr Try.underlying32 rfl Try.sizeOf30 rfl rfl) ?_
              refine rw_r (op_loadB Try.underlying30 rfl rfl (S.blk (i := 1) rfl) rfl) ?_
              refine rw_v (op_len Try.underlying30 rfl) ?_
              refine rw_v (op_b (b := true) rfl (decide_eq_true (by omega))) ?_
              first | refine rw_end ?_ | (refine rw_nil ?_; show CW _ _ _ _ _ _) | refine rw_nil ?_
              repeat refine cw_seq ?_
              refine cw_true rfl ?_
              repeat refine cw_seq ?_
              refine cw_skip ?_
              try show CW _ _ _ _ _ _
              repeat refine cw_seq ?_
              refine cw_block ?_
              repeat refine cw_seq ?_
              refine cw_draw (C := fun wq => Gr w2 wq) [0, 1, 2, 3, 4, 5, 6, 7, 8, 9, 10, 11, 12, 13, 14, 15, 16, 17, 18, 19, 20, 21] [] (by kernel_rfl) (by kernel_rfl) (Gr.drew _) ?_
              simp only [pickL, List.drop_succ_cons, List.drop_zero]
              iterate 2 refine rq_v (op_pure rfl) ?_
              refine rq_v (op_idx Try.underlying30 Try.sizeOf2 rfl rfl sa_lb (by omega) (by omega)) ?_
              refine rq_r (fun wq hq => op_ldR Try.underlying2 rfl rfl ((S.gr hq).rd (i := 0) rfl) hgli) ?_
              iterate 2 refine rq_v (op_pure rfl) ?_
              refine rq_v (op_idx Try.underlying30 Try.sizeOf2 rfl rfl sa_lb (by omega) (by omega)) ?_
              refine rq_r (fun wq hq => op_ldR Try.underlying2 rfl rfl ((S.gr hq).rd (i := 0) rfl) hglq) ?_
              refine rq_v (op_b (b := false) rfl (beq_eq_false_iff_ne.2 (by omega))) ?_
              refine rq_v (op_pure rfl) ?_
              refine rq_off rfl ?_
              refine rq_off rfl ?_
              refine rq_off rfl ?_
              refine rq_off rfl ?_
              refine rq_off rfl ?_
              refine rq_off rfl ?_
              refine rq_off rfl ?_
              refine rq_off rfl ?_
              refine rq_off rfl ?_
              refine rq_off rfl ?_
              refine rq_off rfl ?_
              refine rq_v (op_pure rfl) ?_
              refine rq_nil ?_
              intro w6_ g6_
              have S := S.gr g6_
              first | refine rw_end ?_ | (refine rw_nil ?_; show CW _ _ _ _ _ _) | refine rw_nil ?_
              repeat refine cw_seq ?_
              refine cw_false rfl ?_
              repeat refine cw_seq ?_
              refine cw_skip ?_
              try show CW _ _ _ _ _ _
              repeat refine cw_seq ?_
              refine cw_region ?_
              refine rw_v (op_pure rfl) ?_
              refine rw_v (op_rng rfl (by omega)) ?_
              refine rw_v (op_pure rfl) ?_
              first | refine rw_end ?_ | (refine rw_nil ?_; show CW _ _ _ _ _ _) | refine rw_nil ?_
              exact ⟨m2 - 1, by omega, i + 1, hit, by omega, hkeep (fun h => he h.1), ⟨rfl, rfl, rfl, rfl, rfl, rfl, rfl, ie (by omega), trivial⟩, S⟩
          · obtain rfl : i = V.length := by omega
            have hhi : hit = true ↔ HiC gw V T q := by
              rw [← hlab, hh2]
              exact ⟨fun ⟨i', h, h1, h2⟩ => ⟨i', h, by rw [h1]; exact hpq, h1, h2⟩, fun ⟨i', h, _, h1, h2⟩ => ⟨i', h, h1, h2⟩⟩
            have S := S.drop 1
            repeat refine cw_seq ?_
            refine cw_region ?_
            refine rw_v (op_pure rfl) ?_
            refine rw_v (op_fieldAddr Try.underlying32 rfl Try.sizeOf30 rfl rfl) ?_
            refine rw_r (op_loadB Try.underlying30 rfl rfl (S.blk (i := 0) rfl) rfl) ?_
            refine rw_v (op_len Try.underlying30 rfl) ?_
            refine rw_v (op_b (b := false) rfl (decide_eq_false (by omega))) ?_
            first | refine rw_end ?_ | (refine rw_nil ?_; show CW _ _ _ _ _ _) | refine rw_nil ?_
            repeat refine cw_seq ?_
            refine cw_false rfl ?_
            repeat refine cw_seq ?_
            refine cw_exit ?_
            repeat first | refine exit_then ?_ | refine exit_inb ?_
            show CW _ _ _ _ _ _
            repeat refine cw_seq ?_
            refine cw_region ?_
            refine rw_v (op_pure rfl) ?_
            refine rw_v (op_rng rfl (by omega)) ?_
            refine rw_v (op_pure rfl) ?_
            first | refine rw_end ?_ | (refine rw_nil ?_; show CW _ _ _ _ _ _) | refine rw_nil ?_
            rw [← hT] at hhi h2
            cases hit with
            | true => exact ⟨m - 1, by omega, k + 1, T, true, by omega, by rw [← hT]; exact hI.hit h2 (hhi.1 rfl), ⟨rfl, rfl, rfl, rfl, ie (by omega), trivial⟩, S⟩
            | false => exact ⟨m - 1, by omega, k + 1, b, f, by omega, hI.miss (fun h => by have := hhi.2 h; cases this), ⟨rfl, rfl, rfl, rfl, ie (by omega), trivial⟩, S⟩
  · obtain rfl : k = V.length := by omega
    obtain ⟨h1, h2⟩ := hI.fin hq
    repeat refine cw_seq ?_
    refine cw_region ?_
    refine rw_v (op_pure rfl) ?_
    refine rw_v (op_fieldAddr Try.underlying32 rfl Try.sizeOf30 rfl rfl) ?_
    refine rw_r (op_loadB Try.underlying30 rfl rfl (S.blk (i := 0) rfl) rfl) ?_
    refine rw_v (op_len Try.underlying30 rfl) ?_
    refine rw_v (op_b (b := false) rfl (decide_eq_false (by omega))) ?_
    first | refine rw_end ?_ | (refine rw_nil ?_; show CW _ _ _ _ _ _) | refine rw_nil ?_
    repeat refine cw_seq ?_
    refine cw_false rfl ?_
    repeat refine cw_seq ?_
    refine cw_exit ?_
    repeat first | refine exit_then ?_ | refine exit_inb ?_
    show CW _ _ _ _ _ _
    repeat refine cw_seq ?_
    refine cw_region ?_
    iterate 4 refine rw_v (op_pure rfl) ?_
    first | refine rw_end ?_ | (refine rw_nil ?_; show CW _ _ _ _ _ _) | refine rw_nil ?_
    repeat refine cw_seq ?_
    refine cw_ret ?_
    repeat first | refine ret_then ?_ | refine ret_inb ?_
    exact res2 rfl rfl ⟨b, f, rfl, h1, h2, S.out⟩
end
end Go.Proofs.Ytiidmiebckkloaa
/- Maps from whole numbers to whole numbers that a call makes: a look-up, a store, a new one. -/
namespace Go.Proofs.Ytiidmiebckkloaa
open Go.RowKit
set_option linter.unusedVariables false
set_option linter.unusedSimpArgs false

def entOk (e : MapEntry) : Prop := ∃ x y : Int, e.key = .int .i64 x ∧ e.val = .int .i64 y
def keyME (e : MapEntry) : Int := match e.key with
  | .int _ x => x
  | _ => 0
def valME (e : MapEntry) : Int := match e.val with
  | .int _ x => x
  | _ => 0
theorem entOk.key {e : MapEntry} (h : entOk e) : e.key = .int .i64 (keyME e) := by obtain ⟨x, y, h1, h2⟩ := h; unfold keyME; rw [h1]
theorem entOk.val {e : MapEntry} (h : entOk e) : e.val = .int .i64 (valME e) := by obtain ⟨x, y, h1, h2⟩ := h; unfold valME; rw [h2]
def lookE : List MapEntry → Int → Option Int
  | [], _ => none
  | e :: r, k => if keyME e = k then some (valME e) else lookE r k
def updM (m : Int → Option Int) (k v : Int) : Int → Option Int := fun x => if x = k then some v else m x
theorem updM_at {m : Int → Option Int} {k v : Int} : updM m k v k = some v := if_pos rfl
theorem updM_ne {m : Int → Option Int} {k v x : Int} (h : x ≠ k) : updM m k v x = m x := if_neg h
theorem find_none {k : Int} : ∀ {l : List MapEntry} {i : Nat}, (∀ e ∈ l, entOk e) → lookE l k = none → Instr.findNow (.int .i64) (.int .i64 k) l i = some none
  | [], _, _, _ => rfl
  | e :: r, i, h, hl => by
    have he := h e (by simp)
    unfold lookE at hl
    split at hl
    · cases hl
    · rename_i hne
      have hs : Instr.sameNow (.int .i64) (.int .i64 k) e.key = some false := by rw [he.key]; simp [Instr.sameNow]; exact fun h => hne h.symm
      unfold Instr.findNow
      rw [hs]
      exact find_none (l := r) (fun e he => h e (List.mem_cons_of_mem _ he)) hl
theorem find_some {k y : Int} : ∀ {l : List MapEntry} {i : Nat}, (∀ e ∈ l, entOk e) → lookE l k = some y → ∃ j, Instr.findNow (.int .i64) (.int .i64 k) l i = some (some (i + j, .int .i64 y)) ∧ (l[j]?).map (·.key) = some (.int .i64 k) ∧
      ∀ v k' : Int, lookE (l.modify j fun e => { e with key := .int .i64 k, val := .int .i64 v }) k' = if k' = k then some v else lookE l k'
  | [], _, _, h => by cases h
  | e :: r, i, h, hl => by
    have he := h e (by simp)
    unfold lookE at hl
    split at hl
    · rename_i hk
      injection hl with hl
      have hs : Instr.sameNow (.int .i64) (.int .i64 k) e.key = some true := by rw [he.key]; simp [Instr.sameNow, hk]
      refine ⟨0, ?_, by simp [he.key, hk], fun v k' => ?_⟩
      · unfold Instr.findNow
        rw [hs]
        show some (some (i, e.val)) = _
        rw [he.val, hl, Nat.add_zero]
      · simp only [List.modify_zero_cons, lookE]
        have e1 : keyME { key := .int .i64 k, val := .int .i64 v, born := e.born } = k := rfl
        have e2 : valME { key := .int .i64 k, val := .int .i64 v, born := e.born } = v := rfl
        rw [e1, e2, hk]
        by_cases hkk : k' = k
        · rw [if_pos hkk.symm, if_pos hkk]
        · rw [if_neg (fun h => hkk h.symm), if_neg hkk, if_neg (fun h => hkk h.symm)]
    · rename_i hne
      have hs : Instr.sameNow (.int .i64) (.int .i64 k) e.key = some false := by rw [he.key]; simp [Instr.sameNow]; exact fun h => hne h.symm
      obtain ⟨j, h1, h2, h3⟩ := find_some (l := r) (i := i + 1) (fun e he => h e (List.mem_cons_of_mem _ he)) hl
      refine ⟨j + 1, ?_, by simpa using h2, fun v k' => ?_⟩
      · unfold Instr.findNow
        rw [hs]
        show Instr.findNow _ _ r (i + 1) = _
        rw [h1]
        congr 3
        omega
      · simp only [List.modify_succ_cons, lookE]
        by_cases hkk : keyME e = k'
        · rw [if_pos hkk, if_neg (fun e1 => hne (hkk.trans e1)), if_pos hkk]
        · rw [if_neg hkk, if_neg hkk]; exact h3 v k'
theorem lookE_push {k v : Int} {c : Nat} : ∀ {l : List MapEntry}, lookE l k = none → ∀ k', lookE (l ++ [⟨.int .i64 k, .int .i64 v, c⟩]) k' = if k' = k then some v else lookE l k'
  | [], _, k' => by
    show (if keyME ⟨.int .i64 k, .int .i64 v, c⟩ = k' then _ else _) = _
    have e1 : keyME ⟨.int .i64 k, .int .i64 v, c⟩ = k := rfl
    rw [e1]
    by_cases hkk : k' = k
    · rw [if_pos hkk.symm, if_pos hkk]; rfl
    · rw [if_neg (fun h => hkk h.symm), if_neg hkk]
  | e :: r, hl, k' => by
    unfold lookE at hl
    split at hl
    · cases hl
    · rename_i hne
      simp only [List.cons_append, lookE]
      by_cases hkk : keyME e = k'
      · rw [if_pos hkk, if_neg (fun e1 => hne (hkk.trans e1)), if_pos hkk]
      · rw [if_neg hkk, if_neg hkk]; exact lookE_push (l := r) hl k'
/-- block b is a map that tells m -/
def MpI (w : World) (b : Nat) (m : Int → Option Int) : Prop := ∃ es clock, w.heap[b]? = some (.map es clock) ∧ (∀ e ∈ es.toList, entOk e) ∧ ∀ k, lookE es.toList k = m k
section
variable {P : Program} {ops : Array Oper} {Q : (Nat → Value) → World → Prop} {e : Nat → Value} {w w' : World} {rest : List Oper} {d : Option Tmp} {ty : TypeId} {ps : String} {af : Array Edge} {b : Nat} {m : Int → Option Int}
theorem MpI.lt (h : MpI w b m) : b < w.heap.size := by
  obtain ⟨es, c, h, _⟩ := h
  rcases Nat.lt_or_ge b w.heap.size with hlt | hge
  · exact hlt
  · rw [Array.getElem?_eq_none hge] at h; cases h
theorem MpI.keep (h : MpI w b m) (hk : w'.heap[b]? = w.heap[b]?) : MpI w' b m := by
  obtain ⟨es, c, h, h2⟩ := h
  exact ⟨es, c, hk.trans h, h2⟩
theorem MpI.congr {m' : Int → Option Int} (h : MpI w b m) (hm : ∀ k, m k = m' k) : MpI w b m' := by
  obtain ⟨es, c, h, h2, h3⟩ := h
  exact ⟨es, c, h, h2, fun k => (h3 k).trans (hm k)⟩
def HA.map (b : Nat) (m : Int → Option Int) : HA := ⟨fun g => g = b, fun w => MpI w b m, fun _ _ h _ hB => hB.keep (h b rfl), fun _ hB g hg => hg ▸ hB.lt⟩
theorem run_getObj_E {r : Nat} {es : Array MapEntry} {c : Nat} (h : w.heap[r]? = some (.map es c)) : (getObj r).run P w = .ok (.map es c) w := by
  simp [getObj, Sem.run, h]
theorem run_setObj_map {r : Nat} {es : Array MapEntry} {c : Nat} (o : Obj) (h : w.heap[r]? = some (.map es c)) : (setObj r o).run P w = .ok () { w with heap := w.heap.setIfInBounds r o } := by
  simp [setObj, Sem.run, h]
theorem run_checkKey_int {kt : TypeId} (hk : P.underlying kt = some (.int .i64)) (em : Bool) (k : Int) : (Instr.checkKey em 10000 kt (.int .i64 k)).run P w = .ok () w := by
  unfold Instr.checkKey
  simp [run_underlying hk]
theorem run_look {t kt et : TypeId} (hu : P.underlying t = some (.map kt et)) (hk : P.underlying kt = some (.int .i64)) (hz : (zeroValue et).run P w = .ok (.int .i64 0) w) (h : MpI w b m) (k : Int) (ok : Bool) :
    (Instr.lookup t (.map (some b)) (.int .i64 k) ok).run P w = .ok (if ok then .tuple #[.int .i64 ((m k).getD 0), .bool (m k).isSome] else .int .i64 ((m k).getD 0)) w := by
  obtain ⟨es, c, hb, hent, hm⟩ := h
  cases hl : lookE es.toList k with
  | none =>
    have h1 := find_none (i := 0) hent hl
    have h2 : m k = none := (hm k).symm.trans hl
    cases ok <;> simp [Instr.lookup, run_underlying hu, run_getObj_E hb, run_checkKey_int hk, Instr.findKey, run_underlying hk, h1, hz, h2]
  | some y =>
    obtain ⟨j, h1, _⟩ := find_some (i := 0) hent hl
    have h2 : m k = some y := (hm k).symm.trans hl
    cases ok <;> simp [Instr.lookup, run_underlying hu, run_getObj_E hb, run_checkKey_int hk, Instr.findKey, run_underlying hk, h1, h2]
theorem run_upd {t kt et : TypeId} (hu : P.underlying t = some (.map kt et)) (hk : P.underlying kt = some (.int .i64)) (h : MpI w b m) (k v : Int) :
    ∃ w', (Instr.mapUpdate t (.map (some b)) (.int .i64 k) (.int .i64 v)).run P w = .ok () w' ∧ w.grownBy w' (some b) ∧ MpI w' b (updM m k v) := by
  obtain ⟨es, c, hb, hent, hm⟩ := h
  have hlt : b < w.heap.size := MpI.lt ⟨es, c, hb, hent, hm⟩
  have hgr : ∀ o : Obj, w.grownBy { w with heap := w.heap.setIfInBounds b o } (some b) := fun o =>
    ⟨rfl, rfl, rfl, by simp, fun i _ hi => by simp only [Array.getElem?_setIfInBounds]; rw [if_neg (fun e => hi (by rw [e]))]⟩
  have hat : ∀ o : Obj, ({ w with heap := w.heap.setIfInBounds b o } : World).heap[b]? = some o := fun o => by simp [hlt]
  cases hl : lookE es.toList k with
  | none =>
    have h1 := find_none (i := 0) hent hl
    refine ⟨_, ?_, hgr (.map (es.push ⟨.int .i64 k, .int .i64 v, c⟩) (c + 1)), _, _, hat _, fun e he => ?_, fun k' => ?_⟩
    · simp [Instr.mapUpdate, run_underlying hu, run_getObj_E hb, run_checkKey_int hk, Instr.findKey, run_underlying hk, h1, run_setObj_map _ hb]
    · simp only [Array.toList_push, List.mem_append, List.mem_singleton] at he
      rcases he with he | rfl
      · exact hent e he
      · exact ⟨k, v, rfl, rfl⟩
    · rw [Array.toList_push, lookE_push hl, hm k']; rfl
  | some y =>
    obtain ⟨j, h1, h2, h3⟩ := find_some (i := 0) hent hl
    rw [Nat.zero_add] at h1
    refine ⟨_, ?_, hgr (.map (es.modify j fun e => { e with key := .int .i64 k, val := .int .i64 v }) c), _, _, hat _, fun e he => ?_, fun k' => ?_⟩
    · have h4 : (es[j]?.map (·.key)).getD (.int .i64 k) = .int .i64 k := by
        have : es.toList[j]? = es[j]? := by simp
        rw [this] at h2
        rw [h2]; rfl
      have h5 : Instr.sameBits 10000 (.int .i64 k) (.int .i64 k) = true := by unfold Instr.sameBits; simp
      have h6 : (Instr.keyThatStays (.int .i64 k) (.int .i64 k)).run P w = .ok (.int .i64 k) w := by unfold Instr.keyThatStays; simp [h5]
      simp only [Instr.mapUpdate, Sem.run_bind, run_underlying hu, Result.andThen_ok, run_getObj_E hb, run_checkKey_int hk, Instr.findKey, run_underlying hk, h1, Sem.run_pure, h4, h6, run_setObj_map _ hb]
    · simp only [Array.toList_modify] at he
      obtain ⟨i, hi, rfl⟩ := List.mem_iff_getElem.1 he
      rw [List.getElem_modify]
      split
      · exact ⟨k, v, rfl, rfl⟩
      · exact hent _ (List.getElem_mem _)
    · rw [Array.toList_modify, h3 v k', hm k']; rfl
theorem op_look {t kt et : TypeId} {x i : Operand} {k : Int} (hu : P.underlying t = some (.map kt et)) (hk : P.underlying kt = some (.int .i64)) (hz : (zeroValue et).run P w = .ok (.int .i64 0) w) (hx : ev e x = .map (some b)) (hi : ev e i = .int .i64 k) (h : MpI w b m) :
    OpR P e ⟨d, .lookup t x i false, ty, ps, af, none⟩ w (.int .i64 ((m k).getD 0)) := by
  have := run_look (P := P) hu hk hz h k false
  simp [OpR, execOp, hx, hi, this]
theorem op_lookOk {t kt et : TypeId} {x i : Operand} {k : Int} (hu : P.underlying t = some (.map kt et)) (hk : P.underlying kt = some (.int .i64)) (hz : (zeroValue et).run P w = .ok (.int .i64 0) w) (hx : ev e x = .map (some b)) (hi : ev e i = .int .i64 k) (h : MpI w b m) :
    OpR P e ⟨d, .lookup t x i true, ty, ps, af, none⟩ w (.tuple #[.int .i64 ((m k).getD 0), .bool (m k).isSome]) := by
  have := run_look (P := P) hu hk hz h k true
  simp [OpR, execOp, hx, hi, this]
variable {F : Nat → Prop} {W : World} {L L' : List HA}
theorem St.map (S : St F W w L) {i : Nat} (hi : getO L i = some (.map b m)) : MpI w b m := S.ok hi
theorem rw_mapUpd {i : Nat} {t kt et : TypeId} {x y z : Operand} {k v : Int} (S : St F W w L) (hi : getO L i = some (.map b m)) (hu : P.underlying t = some (.map kt et)) (hk : P.underlying kt = some (.int .i64)) (hx : ev e x = .map (some b)) (hy : ev e y = .int .i64 k) (hv : ev e z = .int .i64 v)
    (hs : setO L i (.map b (updM m k v)) = some L') (hr : ∀ w', St F W w' L' → RW P ops Q rest (updO e d undef) w') : RW P ops Q (⟨d, .mapUpdate t x y z, ty, ps, af, none⟩ :: rest) e w := by
  obtain ⟨w', hrun, hg, hM⟩ := run_upd (P := P) hu hk (S.map hi) k v
  refine rw_s (w' := w') ?_ (hr w' ?_)
  · simp [execOp, hx, hy, hv, hrun]
  · exact S.set hi hs (Fr.of_grown (F := fun b' => b' = b) hg (fun b e => by injection e with e; exact e.symm)) (fun b e => .inl e) hM (fun b e => .inl e)
theorem rw_makeMap {t : TypeId} (S : St F W w L) (hr : ∀ b w', Gr w w' → St F W w' (.map b (fun _ => none) :: L) → RW P ops Q rest (updO e d (.map (some b))) w') : RW P ops Q (⟨d, .makeMap t none, ty, ps, af, none⟩ :: rest) e w := by
  refine rw_w (v := .map (some w.heap.size)) (w' := w.alloc (.map #[] 0)) ?_ (hr _ _ (Gr.alloc w _) ?_)
  · have := @run_makeMap P t w
    simp [execOp, this]
  · exact S.push (Gr.alloc w _) (h := .map w.heap.size fun _ => none) ⟨#[], 0, heap_alloc_new w _, (fun e he => by simp at he), fun k => rfl⟩ (fun g hg => by rw [hg]; exact Nat.le_refl _)
end
end Go.Proofs.Ytiidmiebckkloaa
