/- Package fill: a cell is reached. -/
import Derived.Test.YtbcgbcipigcbhaaFillA
namespace Go.Proofs.Ytbcgbcipigcbhaa
open Go.RowKit
set_option linter.unusedVariables false
set_option linter.unusedSimpArgs false
set_option maxRecDepth 100000

def boolsV (n : Nat) (f : Nat → Bool) : List Value := (List.range n).map fun i => .bool (f i)
theorem boolsV_len (n : Nat) (f : Nat → Bool) : (boolsV n f).length = n := by simp [boolsV]
theorem boolsV_get {n i : Nat} {f : Nat → Bool} (h : i < n) : (boolsV n f)[(i : Int).toNat * 1]? = some (.bool (f i)) := by
  rw [Nat.mul_one, Int.toNat_natCast, boolsV, List.getElem?_map, List.getElem?_range h]; rfl
theorem boolsV_set {n k : Nat} {f : Nat → Bool} : (boolsV n f).set ((k : Int).toNat * 1) (.bool true) = boolsV n (updB f k) := by
  rw [Nat.mul_one, Int.toNat_natCast]
  apply List.ext_getElem?
  intro i
  rw [List.getElem?_set]
  unfold boolsV updB
  by_cases e : k = i
  · subst e
    rw [if_pos rfl]
    simp only [List.length_map, List.length_range]
    split
    · rename_i h; rw [List.getElem?_map, List.getElem?_range h]; simp
    · rename_i h; rw [List.getElem?_eq_none (by simp; omega)]
  · rw [if_neg e, List.getElem?_map, List.getElem?_map]
    by_cases h : i < n
    · rw [List.getElem?_range h, Option.map_some, Option.map_some, if_neg (fun h => e h.symm)]
    · rw [List.getElem?_eq_none (by simp; omega)]; rfl
theorem boolsV_zero (n : Nat) : List.replicate n (Value.bool false) = boolsV n (fun _ => false) := by
  unfold boolsV
  rw [List.map_const', List.length_range]
/-- the land in memory, its shore a heap -/
def FQ (F : Nat → Prop) (W0 : World) (L : List HA) (q gw n : Nat) (Av : Option Addr) (cv : Nat) (Al : Option Addr) (cl : Nat) (Ak : Option Addr) (ck : Nat) (V : List Int) (lv : Nat → Int) (kn : Nat → Bool) (l : List Job) (w : World) : Prop :=
  shore.QH F W0 (.row 2 1 Al n cl (cellsQ n lv) :: .row 4 1 Ak n ck (boolsV n kn) :: .row 2 1 Av n cv (ints V) :: L) q (.int .i64 gw) (.slice Av n cv) (.slice Al n cl) (.slice Ak n ck) l w
section
variable {F : Nat → Prop} {W0 : World} {L : List HA} {q gw gh n cv cl ck : Nat} {Av Al Ak : Option Addr} {V : List Int} {lv : Nat → Int} {kn : Nat → Bool} {l : List Job} {w : World}
theorem reachKn_E (i : Nat) (level : Int) (hi : i < n) (hk : kn i = true) (hQ : FQ F W0 L q gw n Av cv Al cl Ak ck V lv kn l w) :
    Fn Try.prog 123 [.pointer (some ⟨q, 0, none⟩), .int .i64 i, .int .i64 level] w (fun v w' => v = .tuple #[] ∧ FQ F W0 L q gw n Av cv Al cl Ak ck V lv kn l w') := by
  obtain ⟨hls, A_R, c, S⟩ := hQ
  have sa_kn : SomeA Ak := (S.row (i := 3) rfl).someA (by omega)
  have hget := boolsV_get (f := kn) hi
  rw [hk] at hget
  refine Fn_enter Try.func123 rfl Try.results123 Try.ntmps123 (by kernel_rfl) (by kernel_rfl) ?_
  repeat refine cw_seq ?_
  refine cw_region ?_
  iterate 2 refine rw_v (op_pure rfl) ?_
  refine rw_v (op_fieldAddr Try.underlying106 rfl Try.sizeOf86 rfl rfl) ?_
  refine rw_r (op_loadB Try.underlying86 rfl rfl (S.blk (i := 0) rfl) rfl) ?_
  refine rw_v (op_pure rfl) ?_
  refine rw_v (op_idx Try.underlying86 Try.sizeOf4 rfl rfl sa_kn (by omega) (by omega)) ?_
  refine rw_r (op_ldR Try.underlying4 rfl rfl (S.rd (i := 3) rfl) hget) ?_
  first | refine rw_end ?_ | (refine rw_nil ?_; show CW _ _ _ _ _ _) | refine rw_nil ?_
  repeat refine cw_seq ?_
  refine cw_true rfl ?_
  repeat refine cw_seq ?_
  refine cw_ret ?_
  repeat first | refine ret_then ?_ | refine ret_inb ?_
  exact res0 ⟨rfl, hls, A_R, c, S⟩
set_option maxHeartbeats 1000000 in
theorem reachNew_E (i : Nat) (level : Int) (hi : i < n) (hV : V.length = n) (hk : kn i = false) (hN : HeapN l l.length) (hl : l.length ≤ 1099511627776) (hQ : FQ F W0 L q gw n Av cv Al cl Ak ck V lv kn l w) :
    Fn Try.prog 123 [.pointer (some ⟨q, 0, none⟩), .int .i64 i, .int .i64 level] w (fun v w' => v = .tuple #[] ∧ ∃ l', l'.length = l.length + 1 ∧ (∀ y, y ∈ l' ↔ y = (max (V.getD i 0) level, i) ∨ y ∈ l) ∧ HeapN l' l'.length ∧
      FQ F W0 L q gw n Av cv Al cl Ak ck V (updI lv i (max (V.getD i 0) level)) (updB kn i) l' w') := by
  obtain ⟨hls, A_R, c, S⟩ := hQ
  have sa_lv : SomeA Al := (S.row (i := 2) rfl).someA (by omega)
  have sa_kn : SomeA Ak := (S.row (i := 3) rfl).someA (by omega)
  have sa_v : SomeA Av := (S.row (i := 4) rfl).someA (by omega)
  have hget := boolsV_get (f := kn) hi
  rw [hk] at hget
  have hvget : (ints V)[(i : Int).toNat * 1]? = some (.int .i64 (V.getD i 0)) := by rw [Nat.mul_one, Int.toNat_natCast]; exact ints_get (getD_at (by omega))
  have hself : updI lv i (max (V.getD i 0) level) i = max (V.getD i 0) level := by unfold updI; rw [if_pos rfl]
  refine Fn_enter Try.func123 rfl Try.results123 Try.ntmps123 (by kernel_rfl) (by kernel_rfl) ?_
  repeat refine cw_seq ?_
  refine cw_region ?_
  iterate 2 refine rw_v (op_pure rfl) ?_
  refine rw_v (op_fieldAddr Try.underlying106 rfl Try.sizeOf86 rfl rfl) ?_
  refine rw_r (op_loadB Try.underlying86 rfl rfl (S.blk (i := 0) rfl) rfl) ?_
  refine rw_v (op_pure rfl) ?_
  refine rw_v (op_idx Try.underlying86 Try.sizeOf4 rfl rfl sa_kn (by omega) (by omega)) ?_
  refine rw_r (op_ldR Try.underlying4 rfl rfl (S.rd (i := 3) rfl) hget) ?_
  first | refine rw_end ?_ | (refine rw_nil ?_; show CW _ _ _ _ _ _) | refine rw_nil ?_
  repeat refine cw_seq ?_
  refine cw_false rfl ?_
  repeat refine cw_seq ?_
  refine cw_skip ?_
  try show CW _ _ _ _ _ _
  repeat refine cw_seq ?_
  refine cw_region ?_
  iterate 2 refine rw_v (op_pure rfl) ?_
  refine rw_v (op_fieldAddr Try.underlying106 rfl Try.sizeOf86 rfl rfl) ?_
  refine rw_r (op_loadB Try.underlying86 rfl rfl (S.blk (i := 0) rfl) rfl) ?_
  refine rw_v (op_pure rfl) ?_
  refine rw_v (op_idx Try.underlying86 Try.sizeOf4 rfl rfl sa_kn (by omega) (by omega)) ?_
  refine rw_storeR (i := 3) S rfl (Try.sizeOf4 _) rfl rfl rfl rfl (by rw [boolsV_len]; omega) rfl ?_
  intro w1_ S
  first | refine rw_end ?_ | (refine rw_nil ?_; show CW _ _ _ _ _ _) | refine rw_nil ?_
  repeat refine cw_seq ?_
  refine cw_draw (C := fun wq => Gr w1_ wq) [0, 1, 2, 3, 4, 5, 6, 7, 8, 9, 10, 11, 12, 13] [14, 15] (by kernel_rfl) (by kernel_rfl) (Gr.drew _) ?_
  simp only [pickL, List.drop_succ_cons, List.drop_zero]
  iterate 2 refine rq_v (op_pure rfl) ?_
  refine rq_v (op_fieldAddr Try.underlying106 rfl Try.sizeOf22 rfl rfl) ?_
  refine rq_r (fun wq hq => op_loadB Try.underlying22 rfl rfl ((S.gr hq).blk (i := 0) rfl) rfl) ?_
  iterate 3 refine rq_v (op_pure rfl) ?_
  refine rq_v (op_fieldAddr Try.underlying106 rfl Try.sizeOf22 rfl rfl) ?_
  refine rq_r (fun wq hq => op_loadB Try.underlying22 rfl rfl ((S.gr hq).blk (i := 0) rfl) rfl) ?_
  refine rq_v (op_pure rfl) ?_
  refine rq_v (op_idx Try.underlying22 Try.sizeOf2 rfl rfl sa_v (by omega) (by omega)) ?_
  refine rq_r (fun wq hq => op_ldR Try.underlying2 rfl rfl ((S.gr hq).rd (i := 4) rfl) hvget) ?_
  iterate 2 refine rq_v (op_pure rfl) ?_
  refine rq_nil ?_
  intro w2_ g2_
  have S := S.gr g2_
  refine rw_v (op_idx Try.underlying22 Try.sizeOf2 rfl rfl sa_lv (by omega) (by omega)) ?_
  refine rw_storeR (i := 2) S rfl (Try.sizeOf2 _) rfl rfl rfl rfl (by rw [cellsQ_len]; omega) rfl ?_
  intro w3_ S
  first | refine rw_end ?_ | (refine rw_nil ?_; show CW _ _ _ _ _ _) | refine rw_nil ?_
  rw [boolsV_set, cellsQ_set] at S
  have hget2 := cellsQ_get (o := updI lv i (max (V.getD i 0) level)) hi
  rw [hself] at hget2
  repeat refine cw_seq ?_
  refine cw_draw (C := fun wq => Gr w3_ wq) [0, 1, 2, 3, 4, 5, 6, 7, 8, 9, 10, 11, 12, 13] [14] (by kernel_rfl) (by kernel_rfl) (Gr.drew _) ?_
  simp only [pickL, List.drop_succ_cons, List.drop_zero]
  iterate 2 refine rq_v (op_pure rfl) ?_
  refine rq_v (op_fieldAddr Try.underlying106 rfl Try.sizeOf104 rfl rfl) ?_
  refine rq_v (op_iface Try.underlying189 rfl rfl) ?_
  iterate 2 refine rq_v (op_pure rfl) ?_
  refine rq_v (op_fieldAddr Try.underlying106 rfl Try.sizeOf22 rfl rfl) ?_
  refine rq_r (fun wq hq => op_loadB Try.underlying22 rfl rfl ((S.gr hq).blk (i := 0) rfl) rfl) ?_
  refine rq_v (op_pure rfl) ?_
  refine rq_v (op_idx Try.underlying22 Try.sizeOf2 rfl rfl sa_lv (by omega) (by omega)) ?_
  refine rq_r (fun wq hq => op_ldR Try.underlying2 rfl rfl ((S.gr hq).rd (i := 2) rfl) hget2) ?_
  refine rq_v (op_pure rfl) ?_
  refine rq_v (op_build (pl := [(0, 1), (1, 1)]) Try.underlying187 Try.zeroValue187 (fun w => by kernel_rfl) rfl rfl) ?_
  refine rq_v (op_iface Try.underlying187 rfl rfl) ?_
  refine rq_nil ?_
  intro w4_ g4_
  have S := S.gr g4_
  refine rw_call rfl (hpush_E shore.qops l (max (V.getD i 0) level, i) _ hN ⟨hls, _, _, S⟩ hl) ?_
  rintro _ w9 ⟨rfl, l', h1, h2, h3, hQ⟩
  first | refine rw_end ?_ | (refine rw_nil ?_; show CW _ _ _ _ _ _) | refine rw_nil ?_
  exact res0n ⟨rfl, l', h1, h2, h3, hQ⟩
end

/-! ### Neighbours by their directions -/
section
variable {P : Program} {e : Nat → Value} {d : Option Tmp} {ty : TypeId} {ps : String} {af : Array Go.Edge}
/-- an array's literal -/
theorem op_arrLit {t el : TypeId} {m k : Nat} {parts : List (Nat × Operand)} {z : Value} {l0 l : List Value} (hu : P.underlying t = some (.array m el)) (hz : ∀ w, (zeroValue t).run P w = .ok z w)
    (hs : ∀ w, (sizeOf el).run P w = .ok k w)
    (h1 : lay (fun i => some (i * k, k)) z.cells.toList (evp e parts) = some l0) (h2 : fzl l0 = some l) : OpV P e ⟨d, .build t parts.toArray, ty, ps, af, none⟩ (.agg l.toArray) := by
  intro w
  have h0 := fzl_eq h2
  subst h0
  have h3 := fill_of_lay h1
  have h4 : (z.cells.toList).toArray = z.cells := by simp
  rw [h4] at h3
  have h5 : (parts.map fun p => (p.1, ev e p.2)) = evp e parts := evp_eq e parts
  simp [OpR, execOp, Instr.build, hz, run_underlying hu, hs, h5, h3]
end
def nb (gw i k : Nat) : Nat := ((i : Int) + dirS gw k).toNat
section
variable {gw gh i j : Nat}
theorem nb0 (h : gw ≤ i) : nb gw i 0 = i - gw := by unfold nb; rw [show dirS gw 0 = -(gw : Int) from rfl]; omega
theorem nb1 (h : 1 ≤ i) : nb gw i 1 = i - 1 := by unfold nb; rw [show dirS gw 1 = -1 from rfl]; omega
theorem nb2 : nb gw i 2 = i + 1 := by unfold nb; rw [show dirS gw 2 = 1 from rfl]; omega
theorem nb3 : nb gw i 3 = i + gw := by unfold nb; rw [show dirS gw 3 = (gw : Int) from rfl]; omega
theorem ok0 {n : Nat} : okS gw n i 0 = true ↔ gw ≠ 1 ∧ gw ≤ i := by unfold okS; simp
theorem ok1 {n : Nat} : okS gw n i 1 = true ↔ gw ≠ 1 ∧ 0 < i % gw := by unfold okS; simp
theorem ok2 {n : Nat} : okS gw n i 2 = true ↔ gw ≠ 1 ∧ i % gw + 1 < gw := by unfold okS; simp
theorem ok3 {n : Nat} : okS gw n i 3 = true ↔ gw ≠ 1 ∧ i + gw < n := by unfold okS; simp
theorem mod_pos (h : 0 < i % gw) : 1 ≤ i := by rcases Nat.eq_zero_or_pos i with e | e; · subst e; simp at h
                                               · exact e
theorem okS_side {k : Nat} (hgw : 0 < gw) (hi : i < gw * gh) (hk : k < 4) (h : okS gw (gw * gh) i k = true) : nb gw i k < gw * gh ∧ Side gw i (nb gw i k) ∧ (i : Int) + dirS gw k = ((nb gw i k : Nat) : Int) := by
  rcases (show k = 0 ∨ k = 1 ∨ k = 2 ∨ k = 3 by omega) with rfl | rfl | rfl | rfl
  · obtain ⟨_, h⟩ := ok0.1 h
    rw [nb0 h, show dirS gw 0 = -(gw : Int) from rfl]
    exact ⟨by omega, .inr (.inr (.inl (by omega))), by omega⟩
  · obtain ⟨_, h⟩ := ok1.1 h
    have := mod_pos h
    rw [nb1 this, show dirS gw 1 = -1 from rfl]
    exact ⟨by omega, .inl ⟨by omega, h⟩, by omega⟩
  · obtain ⟨_, h⟩ := ok2.1 h
    rw [nb2, show dirS gw 2 = 1 from rfl]
    refine ⟨next_lt hgw hi h, .inr (.inl ⟨rfl, ?_⟩), by omega⟩
    rw [mod_next hgw, if_neg (by omega)]; omega
  · obtain ⟨_, h⟩ := ok3.1 h
    rw [nb3, show dirS gw 3 = (gw : Int) from rfl]
    exact ⟨h, .inr (.inr (.inr rfl)), by omega⟩
theorem side_ok (hgw : 0 < gw) (hi : i < gw * gh) (hj : j < gw * gh) (s : Side gw i j) (g1 : gw ≠ 1) : ∃ k, k < 4 ∧ okS gw (gw * gh) i k = true ∧ nb gw i k = j := by
  rcases s with ⟨e, h⟩ | ⟨e, h⟩ | e | e
  · exact ⟨1, by omega, ok1.2 ⟨g1, h⟩, by rw [nb1 (mod_pos h)]; omega⟩
  · subst e
    rw [mod_next hgw] at h
    have hm := Nat.mod_lt i hgw
    by_cases h1 : i % gw + 1 = gw
    · rw [if_pos h1] at h; omega
    · exact ⟨2, by omega, ok2.2 ⟨g1, by omega⟩, nb2⟩
  · exact ⟨0, by omega, ok0.2 ⟨g1, by omega⟩, by rw [nb0 (by omega)]; omega⟩
  · exact ⟨3, by omega, ok3.2 ⟨g1, by omega⟩, by rw [nb3]; exact e⟩
theorem bord_one {n : Nat} (h : gw = 1) : bordB gw n j = true := by subst h; unfold bordB; simp [Nat.mod_one]
end
def todoS (gw n i k : Nat) : List Nat := ((([0, 1, 2, 3] : List Nat).drop k).filter (okS gw n i)).map (nb gw i)
theorem todoS_step {gw n i k : Nat} (hk : k < 4) : todoS gw n i k = (if okS gw n i k = true then [nb gw i k] else []) ++ todoS gw n i (k + 1) := by
  rcases (show k = 0 ∨ k = 1 ∨ k = 2 ∨ k = 3 by omega) with rfl | rfl | rfl | rfl <;> unfold todoS <;> simp only [List.drop_zero, List.drop_succ_cons, List.filter_cons] <;> split <;> rfl
theorem mem_todo {gw n i k j : Nat} (hk : k < 4) (h : okS gw n i k = true) (e : nb gw i k = j) : j ∈ todoS gw n i 0 := by
  unfold todoS
  rw [List.mem_map]
  refine ⟨k, List.mem_filter.2 ⟨?_, h⟩, e⟩
  rw [List.drop_zero]
  simp only [List.mem_cons, List.not_mem_nil, or_false]
  omega
def innF (gw n i k : Nat) : Bool := okS gw n i k && !bordB gw n (nb gw i k)
def innB (gw n i : Nat) : Bool := ([0, 1, 2, 3] : List Nat).any (innF gw n i)
theorem innB_true {gw n i k : Nat} (hk : k < 4) (h : innF gw n i k = true) : innB gw n i = true := by
  unfold innB
  rw [List.any_eq_true]
  refine ⟨k, ?_, h⟩
  simp only [List.mem_cons, List.not_mem_nil, or_false]
  omega
theorem innB_false {gw n i : Nat} (h : ∀ k, k < 4 → innF gw n i k = false) : innB gw n i = false := by
  unfold innB
  simp [h 0 (by omega), h 1 (by omega), h 2 (by omega), h 3 (by omega)]
def dirsV (gw : Nat) : List Value := [.int .i64 (-(gw : Int)), .int .i64 (-1), .int .i64 1, .int .i64 (gw : Int)]
theorem dirsV_get {gw k : Nat} (hk : k < 4) : (dirsV gw)[(k : Int).toNat * 1]? = some (.int .i64 (dirS gw k)) := by
  rcases (show k = 0 ∨ k = 1 ∨ k = 2 ∨ k = 3 by omega) with rfl | rfl | rfl | rfl <;> rfl
section
variable {W : World} {Av : Option Addr} {gw gh n cv b : Nat} {x2 x3 x4 : Value}
set_option maxHeartbeats 2000000 in
theorem inner45_E (i : Nat) (hgw : 1 ≤ gw ∧ gw ≤ 1048576) (hng : n = gw * gh) (hi : i < n) (hn : n ≤ 1048576) (hB : Blk W b 106 [.int .i64 gw, .slice Av n cv, x2, x3, x4]) :
    Fn Try.prog 126 [.pointer (some ⟨b, 0, none⟩), .int .i64 i] W (RetG (.bool (innB gw n i)) W) := by
  have eneg : 0 - (gw : Int) = -(gw : Int) := by omega
  have S := St.start W
  refine Fn_enter Try.func126 rfl Try.results126 Try.ntmps126 (by kernel_rfl) (by kernel_rfl) ?_
  repeat refine cw_seq ?_
  refine cw_region ?_
  refine rw_v (op_pure rfl) ?_
  first | refine rw_end ?_ | (refine rw_nil ?_; show CW _ _ _ _ _ _) | refine rw_nil ?_
  repeat refine cw_seq ?_
  refine cw_draw (C := fun wq => Gr W wq) [0, 1, 2, 3, 4, 5, 6, 7, 8, 9, 10] [] (by kernel_rfl) (by kernel_rfl) (Gr.drew _) ?_
  simp only [pickL, List.drop_succ_cons, List.drop_zero]
  iterate 2 refine rq_v (op_pure rfl) ?_
  refine rq_v (op_fieldAddr Try.underlying106 rfl Try.sizeOf3 rfl rfl) ?_
  refine rq_r (fun wq hq => op_loadB Try.underlying3 rfl rfl (hB.gr (S.gr hq).out) rfl) ?_
  refine rq_v (op_rng rfl (by omega)) ?_
  rw [eneg]
  iterate 2 refine rq_v (op_pure rfl) ?_
  refine rq_v (op_fieldAddr Try.underlying106 rfl Try.sizeOf3 rfl rfl) ?_
  refine rq_r (fun wq hq => op_loadB Try.underlying3 rfl rfl (hB.gr (S.gr hq).out) rfl) ?_
  refine rq_v (op_arrLit Try.underlying190 Try.zeroValue190 Try.sizeOf3 rfl rfl) ?_
  refine rq_v (op_pure rfl) ?_
  refine rq_nil ?_
  intro w1_ g1_
  have S := S.gr g1_
  first | refine rw_end ?_ | (refine rw_nil ?_; show CW _ _ _ _ _ _) | refine rw_nil ?_
  repeat refine cw_seq ?_
  refine cw_block ?_
  repeat refine cw_seq ?_
  refine cw_loop (fun m e w => ∃ k : Nat, k + m = 4 ∧ SL e [(0, .pointer (some ⟨b, 0, none⟩)), (1, .int .i64 i), (18, .agg (dirsV gw).toArray), (19, .int .i64 k)] ∧ (∀ j, j < k → innF gw n i j = false) ∧ St No W w []) 4
    ⟨0, by omega, ⟨rfl, rfl, rfl, rfl, trivial⟩, fun j hj => by omega, S⟩ ?_
  clear S
  rintro m e w ⟨k, hk, hsl, hI, S⟩
  rw [hsl.fold]
  repeat refine cw_seq ?_
  refine cw_region ?_
  refine rw_v (op_pure rfl) ?_
  first | refine rw_end ?_ | (refine rw_nil ?_; show CW _ _ _ _ _ _) | refine rw_nil ?_
  repeat refine cw_seq ?_
  refine cw_cond rfl (fun hc => ?_) (fun hc => ?_)
  · try simp only [decide_eq_true_eq, decide_eq_false_iff_not, beq_iff_eq, bne_iff_ne, beq_eq_false_iff_ne, bne_eq_false_iff_eq, Bool.not_eq_true', Bool.not_eq_false', ne_eq, Decidable.not_not, Int.natCast_inj, Int.ofNat_lt, Int.ofNat_le, gt_iff_lt, ge_iff_le, Int.not_lt, Int.not_le] at hc
    have hk4 : k < 4 := by omega
    have hidx := dirsV_get (gw := gw) hk4
    have next : innF gw n i k = false → ∀ j, j < k + 1 → innF gw n i j = false := fun h j hj => by
      by_cases e : j = k
      · rw [e]; exact h
      · exact hI j (by omega)
    cases hok : okS gw n i k with
    | false =>
      repeat refine cw_seq ?_
      refine cw_skip ?_
      try show CW _ _ _ _ _ _
      repeat refine cw_seq ?_
      refine cw_block ?_
      repeat refine cw_seq ?_
      refine cw_region ?_
      refine rw_v (op_indexV Try.underlying190 Try.underlying3 Try.sizeOf3 rfl rfl rfl (by omega) (by omega) hidx) ?_
      refine rw_v (op_pure rfl) ?_
      first | refine rw_end ?_ | (refine rw_nil ?_; show CW _ _ _ _ _ _) | refine rw_nil ?_
      repeat refine cw_seq ?_
      refine cw_region ?_
      iterate 3 refine rw_v (op_pure rfl) ?_
      refine rw_call rfl (step_E i k hk4 hgw hng hi (by omega) (hB.gr S.out)) ?_
      rintro _ w2_ ⟨rfl, g2_⟩
      have S := S.gr g2_
      rw [hok]
      iterate 5 refine rw_v (op_pure rfl) ?_
      first | refine rw_end ?_ | (refine rw_nil ?_; show CW _ _ _ _ _ _) | refine rw_nil ?_
      repeat refine cw_seq ?_
      refine cw_region ?_
      iterate 2 refine rw_v (op_pure rfl) ?_
      first | refine rw_off rfl ?_ | (refine rw_on rfl ?_; refine rw_v (op_pure rfl) ?_)
      first | refine rw_off rfl ?_ | (refine rw_on rfl ?_; refine rw_v (op_pure rfl) ?_)
      refine rw_off rfl ?_
      first | refine rw_off rfl ?_ | (refine rw_on rfl ?_; refine rw_v (op_pure rfl) ?_)
      refine rw_v (op_pure rfl) ?_
      first | refine rw_end ?_ | (refine rw_nil ?_; show CW _ _ _ _ _ _) | refine rw_nil ?_
      repeat refine cw_seq ?_
      refine cw_false rfl ?_
      repeat refine cw_seq ?_
      refine cw_skip ?_
      try show CW _ _ _ _ _ _
      repeat refine cw_seq ?_
      refine cw_region ?_
      refine rw_v (op_rng rfl (by omega)) ?_
      refine rw_v (op_pure rfl) ?_
      first | refine rw_end ?_ | (refine rw_nil ?_; show CW _ _ _ _ _ _) | refine rw_nil ?_
      exact ⟨m - 1, by omega, k + 1, by omega, ⟨rfl, rfl, rfl, ie (by omega), trivial⟩, next (by unfold innF; rw [hok]; rfl), S⟩
    | true =>
      have hsd := okS_side (gw := gw) (gh := gh) (i := i) (k := k) (by omega) (by omega) hk4 (by rw [← hng]; exact hok)
      cases hb : bordB gw n (nb gw i k) with
      | true =>
        repeat refine cw_seq ?_
        refine cw_skip ?_
        try show CW _ _ _ _ _ _
        repeat refine cw_seq ?_
        refine cw_block ?_
        repeat refine cw_seq ?_
        refine cw_region ?_
        refine rw_v (op_indexV Try.underlying190 Try.underlying3 Try.sizeOf3 rfl rfl rfl (by omega) (by omega) hidx) ?_
        refine rw_v (op_pure rfl) ?_
        first | refine rw_end ?_ | (refine rw_nil ?_; show CW _ _ _ _ _ _) | refine rw_nil ?_
        repeat refine cw_seq ?_
        refine cw_region ?_
        iterate 3 refine rw_v (op_pure rfl) ?_
        refine rw_call rfl (step_E i k hk4 hgw hng hi (by omega) (hB.gr S.out)) ?_
        rintro _ w3_ ⟨rfl, g3_⟩
        have S := S.gr g3_
        rw [hok, hsd.2.2]
        iterate 5 refine rw_v (op_pure rfl) ?_
        first | refine rw_end ?_ | (refine rw_nil ?_; show CW _ _ _ _ _ _) | refine rw_nil ?_
        repeat refine cw_seq ?_
        refine cw_region ?_
        iterate 2 refine rw_v (op_pure rfl) ?_
        first | refine rw_off rfl ?_ | (refine rw_on rfl ?_; refine rw_v (op_pure rfl) ?_)
        first | refine rw_off rfl ?_ | (refine rw_on rfl ?_; refine rw_v (op_pure rfl) ?_)
        refine rw_on rfl ?_
        refine rw_call rfl (border_E (nb gw i k) hgw (by omega) (by omega) (hB.gr S.out)) ?_
        rintro _ w4_ ⟨rfl, g4_⟩
        have S := S.gr g4_
        rw [hb]
        first | refine rw_off rfl ?_ | (refine rw_on rfl ?_; refine rw_v (op_pure rfl) ?_)
        refine rw_v (op_pure rfl) ?_
        first | refine rw_end ?_ | (refine rw_nil ?_; show CW _ _ _ _ _ _) | refine rw_nil ?_
        repeat refine cw_seq ?_
        refine cw_false rfl ?_
        repeat refine cw_seq ?_
        refine cw_skip ?_
        try show CW _ _ _ _ _ _
        repeat refine cw_seq ?_
        refine cw_region ?_
        refine rw_v (op_rng rfl (by omega)) ?_
        refine rw_v (op_pure rfl) ?_
        first | refine rw_end ?_ | (refine rw_nil ?_; show CW _ _ _ _ _ _) | refine rw_nil ?_
        exact ⟨m - 1, by omega, k + 1, by omega, ⟨rfl, rfl, rfl, ie (by omega), trivial⟩, next (by unfold innF; rw [hok, hb]; rfl), S⟩
      | false =>
        repeat refine cw_seq ?_
        refine cw_skip ?_
        try show CW _ _ _ _ _ _
        repeat refine cw_seq ?_
        refine cw_block ?_
        repeat refine cw_seq ?_
        refine cw_region ?_
        refine rw_v (op_indexV Try.underlying190 Try.underlying3 Try.sizeOf3 rfl rfl rfl (by omega) (by omega) hidx) ?_
        refine rw_v (op_pure rfl) ?_
        first | refine rw_end ?_ | (refine rw_nil ?_; show CW _ _ _ _ _ _) | refine rw_nil ?_
        repeat refine cw_seq ?_
        refine cw_region ?_
        iterate 3 refine rw_v (op_pure rfl) ?_
        refine rw_call rfl (step_E i k hk4 hgw hng hi (by omega) (hB.gr S.out)) ?_
        rintro _ w5_ ⟨rfl, g5_⟩
        have S := S.gr g5_
        rw [hok, hsd.2.2]
        iterate 5 refine rw_v (op_pure rfl) ?_
        first | refine rw_end ?_ | (refine rw_nil ?_; show CW _ _ _ _ _ _) | refine rw_nil ?_
        repeat refine cw_seq ?_
        refine cw_region ?_
        iterate 2 refine rw_v (op_pure rfl) ?_
        first | refine rw_off rfl ?_ | (refine rw_on rfl ?_; refine rw_v (op_pure rfl) ?_)
        first | refine rw_off rfl ?_ | (refine rw_on rfl ?_; refine rw_v (op_pure rfl) ?_)
        refine rw_on rfl ?_
        refine rw_call rfl (border_E (nb gw i k) hgw (by omega) (by omega) (hB.gr S.out)) ?_
        rintro _ w6_ ⟨rfl, g6_⟩
        have S := S.gr g6_
        rw [hb]
        first | refine rw_off rfl ?_ | (refine rw_on rfl ?_; refine rw_v (op_pure rfl) ?_)
        refine rw_v (op_pure rfl) ?_
        first | refine rw_end ?_ | (refine rw_nil ?_; show CW _ _ _ _ _ _) | refine rw_nil ?_
        repeat refine cw_seq ?_
        refine cw_true rfl ?_
        repeat refine cw_seq ?_
        refine cw_region ?_
        refine rw_v (op_pure rfl) ?_
        first | refine rw_end ?_ | (refine rw_nil ?_; show CW _ _ _ _ _ _) | refine rw_nil ?_
        repeat refine cw_seq ?_
        refine cw_ret ?_
        repeat first | refine ret_then ?_ | refine ret_inb ?_
        exact res1 rfl ⟨be (innB_true hk4 (by unfold innF; rw [hok, hb]; rfl)).symm, S.out⟩
  · try simp only [decide_eq_true_eq, decide_eq_false_iff_not, beq_iff_eq, bne_iff_ne, beq_eq_false_iff_ne, bne_eq_false_iff_eq, Bool.not_eq_true', Bool.not_eq_false', ne_eq, Decidable.not_not, Int.natCast_inj, Int.ofNat_lt, Int.ofNat_le, gt_iff_lt, ge_iff_le, Int.not_lt, Int.not_le] at hc
    repeat refine cw_seq ?_
    refine cw_exit ?_
    repeat first | refine exit_then ?_ | refine exit_inb ?_
    show CW _ _ _ _ _ _
    repeat refine cw_seq ?_
    refine cw_region ?_
    refine rw_v (op_pure rfl) ?_
    first | refine rw_end ?_ | (refine rw_nil ?_; show CW _ _ _ _ _ _) | refine rw_nil ?_
    repeat refine cw_seq ?_
    refine cw_ret ?_
    repeat first | refine ret_then ?_ | refine ret_inb ?_
    exact res1 rfl ⟨be (innB_false (fun j hj => hI j (by omega))).symm, S.out⟩
end
end Go.Proofs.Ytbcgbcipigcbhaa
