/- Package sparse: what its parts do. -/
import Derived.Test.YtbcgbcipigcbhaaPaintB
namespace Go.Proofs.Ytbcgbcipigcbhaa
open Go.RowKit
set_option linter.unusedVariables false
set_option linter.unusedSimpArgs false
set_option maxRecDepth 100000

section
variable {P : Program} {e : Nat → Value} {d : Option Tmp} {ty : TypeId} {ps : String} {af : Array Edge}
theorem op_geqU {t t' : TypeId} {x y : Operand} {a b : Int} {B : Bool} (hx : ev e x = .int .u64 a) (hy : ev e y = .int .u64 b) (hB : decide (a ≥ b) = B) : OpV P e ⟨d, .binOp .geq t x y t', ty, ps, af, none⟩ (.bool B) := by
  intro w
  subst hB
  simp [OpR, execOp, hx, hy, eqGuard, binOp, Op.intCmp]
theorem op_shl {t t' : TypeId} {x y : Operand} {k kd : IntKind} {a b c : Int} (hx : ev e x = .int k a) (hy : ev e y = .int kd b) (h0 : 0 ≤ b) (hc : k.wrap (a * 2 ^ (min b.toNat k.bits)) = c) : OpV P e ⟨d, .binOp .shl t x y t', ty, ps, af, none⟩ (.int k c) := by
  intro w
  subst hc
  have h1 : ¬ b < 0 := by omega
  simp [OpR, execOp, hx, hy, eqGuard, binOp, Op.shift, h1]
theorem op_indexStr {t : TypeId} {x i : Operand} {s : ByteArray} {kd : IntKind} {n : Int} {b : UInt8} (hu : P.underlying t = some .string) (hx : ev e x = .string s) (hi : ev e i = .int kd n) (h0 : 0 ≤ n) (hb : s[n.toNat]? = some b) : OpV P e ⟨d, .index t x i, ty, ps, af, none⟩ (.int .u8 b.toNat) := by
  intro w
  simp [OpR, execOp, hx, hi, Instr.index, asIntOf, run_underlying hu, h0, hb]
end
theorem len64_3 (W : World) : Fn Try.prog 187 [.int .u64 3] W (RetG (.int .i64 2) W) := by
  have S := St.start W
  refine Fn_enter Try.func187 rfl Try.results187 Try.ntmps187 (by kernel_rfl) (by kernel_rfl) ?_
  repeat refine cw_seq ?_
  refine cw_region ?_
  refine rw_v (op_pure rfl) ?_
  first | refine rw_end ?_ | (refine rw_nil ?_; show CW _ _ _ _ _ _) | refine rw_nil ?_
  repeat refine cw_seq ?_
  refine cw_region ?_
  refine rw_v (op_pure rfl) ?_
  refine rw_v (op_geqU (B := false) rfl rfl (by decide)) ?_
  first | refine rw_end ?_ | (refine rw_nil ?_; show CW _ _ _ _ _ _) | refine rw_nil ?_
  repeat refine cw_seq ?_
  refine cw_false rfl ?_
  repeat refine cw_seq ?_
  refine cw_skip ?_
  try show CW _ _ _ _ _ _
  repeat refine cw_seq ?_
  refine cw_region ?_
  refine rw_v (op_pure rfl) ?_
  refine rw_v (op_geqU (B := false) rfl rfl (by decide)) ?_
  first | refine rw_end ?_ | (refine rw_nil ?_; show CW _ _ _ _ _ _) | refine rw_nil ?_
  repeat refine cw_seq ?_
  refine cw_false rfl ?_
  repeat refine cw_seq ?_
  refine cw_skip ?_
  try show CW _ _ _ _ _ _
  repeat refine cw_seq ?_
  refine cw_region ?_
  refine rw_v (op_pure rfl) ?_
  refine rw_v (op_geqU (B := false) rfl rfl (by decide)) ?_
  first | refine rw_end ?_ | (refine rw_nil ?_; show CW _ _ _ _ _ _) | refine rw_nil ?_
  repeat refine cw_seq ?_
  refine cw_false rfl ?_
  repeat refine cw_seq ?_
  refine cw_skip ?_
  try show CW _ _ _ _ _ _
  repeat refine cw_seq ?_
  refine cw_region ?_
  iterate 2 refine rw_v (op_pure rfl) ?_
  refine rw_v (op_conv (ks := .u64) (n := 3) (kd := .u8) (m := 3) Try.underlying259 Try.underlying5 rfl (by decide)) ?_
  refine rw_v (op_indexStr (b := 2) Try.underlying9 rfl rfl (by decide) rfl) ?_
  refine rw_v (op_conv (ks := .u8) (n := 2) (kd := .i64) (m := 2) Try.underlying5 Try.underlying3 rfl (by decide)) ?_
  refine rw_v (op_rng rfl (by omega)) ?_
  refine rw_v (op_pure rfl) ?_
  first | refine rw_end ?_ | (refine rw_nil ?_; show CW _ _ _ _ _ _) | refine rw_nil ?_
  repeat refine cw_seq ?_
  refine cw_ret ?_
  repeat first | refine ret_then ?_ | refine ret_inb ?_
  exact res1 rfl ⟨rfl, S.out⟩
theorem log_3 (W : World) : Fn Try.prog 170 [.int .i64 3] W (RetG (.int .i64 1) W) := by
  have S := St.start W
  refine Fn_enter Try.func170 rfl Try.results170 Try.ntmps170 (by kernel_rfl) (by kernel_rfl) ?_
  repeat refine cw_seq ?_
  refine cw_region ?_
  refine rw_v (op_pure rfl) ?_
  first | refine rw_end ?_ | (refine rw_nil ?_; show CW _ _ _ _ _ _) | refine rw_nil ?_
  repeat refine cw_seq ?_
  refine cw_region ?_
  refine rw_v (op_pure rfl) ?_
  refine rw_v (op_conv (ks := .i64) (n := 3) (kd := .u64) (m := 3) Try.underlying2 Try.underlying259 rfl (by decide)) ?_
  refine rw_call rfl (len64_3 _) ?_
  rintro _ w1_ ⟨rfl, g1_⟩
  have S := S.gr g1_
  refine rw_v (op_rng rfl (by omega)) ?_
  refine rw_v (op_pure rfl) ?_
  first | refine rw_end ?_ | (refine rw_nil ?_; show CW _ _ _ _ _ _) | refine rw_nil ?_
  repeat refine cw_seq ?_
  refine cw_ret ?_
  repeat first | refine ret_then ?_ | refine ret_inb ?_
  exact res1 rfl ⟨rfl, S.out⟩
structure RG where
  lo : Int
  hi : Int
def RG.cells (r : RG) : List Value := [.int .i64 r.lo, .int .i64 r.hi]
def joinR (a b : RG) : RG := ⟨min a.lo b.lo, max a.hi b.hi⟩
theorem sjoin_E (a b : RG) (W : World) : Fn Try.prog 171 [.agg a.cells.toArray, .agg b.cells.toArray] W (RetG (.agg (joinR a b).cells.toArray) W) := by
  unfold RG.cells
  have S := St.start W
  refine Fn_enter Try.func171 rfl Try.results171 Try.ntmps171 (by kernel_rfl) (by kernel_rfl) ?_
  repeat refine cw_seq ?_
  refine cw_region ?_
  refine rw_newB (op_box rfl) S ?_
  intro b_a w2_ g2_ S
  refine rw_newB (op_box rfl) S ?_
  intro b_b w4_ g4_ S
  refine rw_newB (op_alloc Try.zeroValue78 rfl) S ?_
  intro b_R w6_ g6_ S
  first | refine rw_end ?_ | (refine rw_nil ?_; show CW _ _ _ _ _ _) | refine rw_nil ?_
  repeat refine cw_seq ?_
  refine cw_region ?_
  refine rw_v (op_fieldAddr Try.underlying78 rfl Try.sizeOf2 rfl rfl) ?_
  refine rw_r (op_loadB Try.underlying2 rfl rfl (S.blk (i := 2) rfl) rfl) ?_
  refine rw_v (op_fieldAddr Try.underlying78 rfl Try.sizeOf2 rfl rfl) ?_
  refine rw_r (op_loadB Try.underlying2 rfl rfl (S.blk (i := 1) rfl) rfl) ?_
  refine rw_v (op_pure rfl) ?_
  refine rw_v (op_fieldAddr Try.underlying78 rfl Try.sizeOf2 rfl rfl) ?_
  refine rw_r (op_loadB Try.underlying2 rfl rfl (S.blk (i := 2) rfl) rfl) ?_
  refine rw_v (op_fieldAddr Try.underlying78 rfl Try.sizeOf2 rfl rfl) ?_
  refine rw_r (op_loadB Try.underlying2 rfl rfl (S.blk (i := 1) rfl) rfl) ?_
  refine rw_v (op_pure rfl) ?_
  refine rw_v (op_build (pl := [(0, 1), (1, 1)]) Try.underlying78 Try.zeroValue78 (fun w => by kernel_rfl) rfl rfl) ?_
  refine rw_storeSA (i := 0) S rfl (Try.sizeOf78 _) rfl rfl rfl rfl rfl rfl ?_
  intro w7_ S
  first | refine rw_end ?_ | (refine rw_nil ?_; show CW _ _ _ _ _ _) | refine rw_nil ?_
  repeat refine cw_seq ?_
  refine cw_ret ?_
  repeat first | refine ret_then ?_ | refine ret_inb ?_
  exact resA Try.underlying78 rfl (Try.sizeOf78 _) rfl (S.blk (i := 0) rfl) rfl rfl ⟨rfl, S.out⟩
def rgsV (l : List RG) : List Value := l.flatMap RG.cells
theorem rgsV_len (l : List RG) : (rgsV l).length = l.length * 2 := flatMap_len (f := RG.cells) (fun _ => rfl) l
theorem rgsV_at : ∀ {l : List RG} {k : Nat} {r : RG}, l[k]? = some r → ((rgsV l).drop (k * 2)).take 2 = r.cells
  | [], k, r, h => by cases h
  | r' :: l, 0, r, h => by
    obtain rfl : r' = r := by simpa using h
    rfl
  | r' :: l, k + 1, r, h => by
    have ih := rgsV_at (l := l) (k := k) (r := r) (by simpa using h)
    unfold rgsV at *
    rw [List.flatMap_cons, Nat.succ_mul, ← ih]
    rfl
section
set_option maxHeartbeats 2000000 in
theorem square_E (tb ns cs k across nc cc x y right below : Nat) (As Ac : Option Addr) (v0 v1 : Value) (ss : List Value) (l : List RG) (a b : RG) (W : World) (hT : Blk W tb 239 [v0, v1, .slice As ns cs]) (hS : Rd W As ss) (hk : k < ns)
    (hss : (ss.drop (k * 2)).take 2 = [.int .i64 across, .slice Ac nc cc]) (hC : Rd W Ac (rgsV l)) (hnc : l.length = nc) (hac : across ≤ 1048576) (hx : x ≤ 1048576) (hy : y ≤ 1048576) (hr : right ≤ 1048576) (hb : below ≤ 1048576)
    (ha : l[y * across + x]? = some a) (hbb : l[(y + below) * across + x + right]? = some b) :
    Fn Try.prog 172 [.pointer (some ⟨tb, 0, none⟩), .int .i64 k, .int .i64 x, .int .i64 y, .int .i64 right, .int .i64 below] W (RetG (.agg (joinR a b).cells.toArray) W) := by
  have hi := (List.getElem?_eq_some_iff.1 ha).1
  have hj := (List.getElem?_eq_some_iff.1 hbb).1
  have sa_S : SomeA As := hS.someA (by rcases ss with _ | ⟨u, ss⟩; · simp at hss
                                       · simp)
  have sa_C : SomeA Ac := hC.someA (by rw [rgsV_len]; omega)
  have m1 : y * across ≤ 1048576 * 1048576 := Nat.mul_le_mul hy hac
  have m2 : (y + below) * across ≤ 2097152 * 1048576 := Nat.mul_le_mul (by omega) hac
  have e1 : (y : Int) * across = ((y * across : Nat) : Int) := by push_cast; rfl
  have e2 : ((y : Int) + below) * across = (((y + below) * across : Nat) : Int) := by push_cast; rfl
  have hga := rgsV_at ha
  have hgb := rgsV_at hbb
  generalize y * across = p at *
  generalize (y + below) * across = q at *
  have hga2 : ((rgsV l).drop (((p : Int) + x).toNat * 2)).take 2 = [.int .i64 a.lo, .int .i64 a.hi] := by rw [show ((p : Int) + x).toNat = p + x by omega]; exact hga
  have hgb2 : ((rgsV l).drop (((q : Int) + x + right).toNat * 2)).take 2 = [.int .i64 b.lo, .int .i64 b.hi] := by rw [show ((q : Int) + x + right).toNat = q + x + right by omega]; exact hgb
  have S := St.start W
  refine Fn_enter Try.func172 rfl Try.results172 Try.ntmps172 (by kernel_rfl) (by kernel_rfl) ?_
  repeat refine cw_seq ?_
  refine cw_region ?_
  refine rw_newB (op_alloc Try.zeroValue78 rfl) S ?_
  intro b_R w2_ g2_ S
  first | refine rw_end ?_ | (refine rw_nil ?_; show CW _ _ _ _ _ _) | refine rw_nil ?_
  repeat refine cw_seq ?_
  refine cw_region ?_
  iterate 2 refine rw_v (op_pure rfl) ?_
  refine rw_v (op_fieldAddr Try.underlying239 rfl Try.sizeOf237 rfl rfl) ?_
  refine rw_r (op_loadB Try.underlying237 rfl rfl (hT.gr S.out) rfl) ?_
  refine rw_v (op_pure rfl) ?_
  refine rw_v (op_idx Try.underlying237 Try.sizeOf242 rfl rfl sa_S (by omega) (by omega)) ?_
  refine rw_r (op_ldRA Try.underlying242 rfl (Try.sizeOf242 _) rfl (hS.gr S.out) hss rfl rfl) ?_
  refine rw_newB (op_alloc Try.zeroValue242 rfl) S ?_
  intro b_s w4_ g4_ S
  refine rw_storeSA (i := 0) S rfl (Try.sizeOf242 _) rfl rfl rfl rfl rfl rfl ?_
  intro w5_ S
  first | refine rw_end ?_ | (refine rw_nil ?_; show CW _ _ _ _ _ _) | refine rw_nil ?_
  repeat refine cw_seq ?_
  refine cw_draw (C := fun wq => Gr w5_ wq) [0, 1, 2, 3, 4, 5, 6, 7, 8, 9, 10, 11, 12, 13, 14, 15, 16, 17, 18, 19, 20, 21, 22, 23] [24, 25] (by kernel_rfl) (by kernel_rfl) (Gr.drew _) ?_
  simp only [pickL, List.drop_succ_cons, List.drop_zero]
  refine rq_v (op_fieldAddr Try.underlying242 rfl Try.sizeOf240 rfl rfl) ?_
  refine rq_r (fun wq hq => op_loadB Try.underlying240 rfl rfl ((S.gr hq).blk (i := 0) rfl) rfl) ?_
  refine rq_v (op_pure rfl) ?_
  refine rq_v (op_fieldAddr Try.underlying242 rfl Try.sizeOf2 rfl rfl) ?_
  refine rq_r (fun wq hq => op_loadB Try.underlying2 rfl rfl ((S.gr hq).blk (i := 0) rfl) rfl) ?_
  refine rq_v (op_rng rfl (by rw [e1]; omega)) ?_
  rw [e1]
  refine rq_v (op_pure rfl) ?_
  refine rq_v (op_rng rfl (by omega)) ?_
  refine rq_v (op_idx Try.underlying240 Try.sizeOf78 rfl rfl sa_C (by omega) (by omega)) ?_
  refine rq_r (fun wq hq => op_ldRA Try.underlying78 rfl (Try.sizeOf78 _) rfl (hC.gr (S.gr hq).out) hga2 rfl rfl) ?_
  refine rq_v (op_fieldAddr Try.underlying242 rfl Try.sizeOf240 rfl rfl) ?_
  refine rq_r (fun wq hq => op_loadB Try.underlying240 rfl rfl ((S.gr hq).blk (i := 0) rfl) rfl) ?_
  iterate 2 refine rq_v (op_pure rfl) ?_
  refine rq_v (op_rng rfl (by omega)) ?_
  refine rq_v (op_fieldAddr Try.underlying242 rfl Try.sizeOf2 rfl rfl) ?_
  refine rq_r (fun wq hq => op_loadB Try.underlying2 rfl rfl ((S.gr hq).blk (i := 0) rfl) rfl) ?_
  refine rq_v (op_rng rfl (by rw [e2]; omega)) ?_
  rw [e2]
  refine rq_v (op_pure rfl) ?_
  refine rq_v (op_rng rfl (by omega)) ?_
  refine rq_v (op_pure rfl) ?_
  refine rq_v (op_rng rfl (by omega)) ?_
  refine rq_v (op_idx Try.underlying240 Try.sizeOf78 rfl rfl sa_C (by omega) (by omega)) ?_
  refine rq_r (fun wq hq => op_ldRA Try.underlying78 rfl (Try.sizeOf78 _) rfl (hC.gr (S.gr hq).out) hgb2 rfl rfl) ?_
  refine rq_nil ?_
  intro w6_ g6_
  have S := S.gr g6_
  refine rw_call rfl (sjoin_E a b w6_) ?_
  rintro _ w7_ ⟨rfl, g7_⟩
  have S := S.gr g7_
  refine rw_storeSA (i := 1) S rfl (Try.sizeOf78 _) rfl rfl rfl rfl rfl rfl ?_
  intro w8_ S
  first | refine rw_end ?_ | (refine rw_nil ?_; show CW _ _ _ _ _ _) | refine rw_nil ?_
  repeat refine cw_seq ?_
  refine cw_ret ?_
  repeat first | refine ret_then ?_ | refine ret_inb ?_
  exact resA Try.underlying78 rfl (Try.sizeOf78 _) rfl (S.blk (i := 1) rfl) rfl rfl ⟨rfl, S.out⟩
end
