/- The operations, one law each, over a frame that is a function. -/
import Derived.Test.YtbcgbcipigcbhaaLog
namespace Go.Proofs.Ytbcgbcipigcbhaa
open Go.RowKit
set_option linter.unusedVariables false
set_option linter.unusedSimpArgs false

/-- A value, its head laid open. -/
def fz : Value → Option Value
  | .bool b => some (.bool b)
  | .int k n => some (.int k n)
  | .float k n => some (.float k n)
  | .complex k a b => some (.complex k a b)
  | .string s => some (.string s)
  | .pointer a => some (.pointer a)
  | .slice a n c => some (.slice a n c)
  | .map r => some (.map r)
  | .chan r => some (.chan r)
  | .func f a b => some (.func f a b)
  | .nilFunc => some .nilFunc
  | .iface t v => some (.iface t v)
  | .nilIface => some .nilIface
  | .agg cs => some (.agg cs)
  | .tuple vs => some (.tuple vs)
theorem fz_eq {v u : Value} (h : fz v = some u) : v = u := by cases v <;> (simp only [fz, Option.some.injEq] at h; exact h)
def fzl : List Value → Option (List Value)
  | [] => some []
  | v :: r => match fz v, fzl r with
    | some a, some b => some (a :: b)
    | _, _ => none
theorem fzl_eq : ∀ {l m : List Value}, fzl l = some m → l = m
  | [], m, h => by simpa [fzl] using h
  | v :: r, m, h => by
    simp only [fzl] at h
    cases hv : fz v with
    | none => rw [hv] at h; cases h
    | some a =>
      cases hr : fzl r with
      | none => rw [hv, hr] at h; cases h
      | some b =>
        rw [hv, hr] at h
        simp only [Option.some.injEq] at h
        rw [← h, fz_eq hv, fzl_eq hr]

section
variable {P : Program} {e : Nat → Value} {w : World}
def OpR (P : Program) (e : Nat → Value) (o : Oper) (w : World) (v : Value) : Prop := (execOp (ev e) o).run P w = .ok (.value v) w
def OpV (P : Program) (e : Nat → Value) (o : Oper) (v : Value) : Prop := ∀ w, OpR P e o w v

def binV : BinOp → Value → Value → Option Value
  | .add, .int .i64 a, .int .i64 b => some (.int .i64 (IntKind.i64.wrap (a + b)))
  | .sub, .int .i64 a, .int .i64 b => some (.int .i64 (IntKind.i64.wrap (a - b)))
  | .mul, .int .i64 a, .int .i64 b => some (.int .i64 (IntKind.i64.wrap (a * b)))
  | .lss, .int .i64 a, .int .i64 b => some (.bool (decide (a < b)))
  | .leq, .int .i64 a, .int .i64 b => some (.bool (decide (a ≤ b)))
  | .gtr, .int .i64 a, .int .i64 b => some (.bool (decide (a > b)))
  | .geq, .int .i64 a, .int .i64 b => some (.bool (decide (a ≥ b)))
  | .eql, .int .i64 a, .int .i64 b => some (.bool (a == b))
  | .neq, .int .i64 a, .int .i64 b => some (.bool (a != b))
  | .eql, .int .i32 a, .int .i32 b => some (.bool (a == b))
  | .neq, .int .i32 a, .int .i32 b => some (.bool (a != b))
  | .eql, .int .u8 a, .int .u8 b => some (.bool (a == b))
  | .neq, .int .u8 a, .int .u8 b => some (.bool (a != b))
  | .add, .int .u8 a, .int .u8 b => some (.int .u8 (IntKind.u8.wrap (a + b)))
  | .lss, .int .u8 a, .int .u8 b => some (.bool (decide (a < b)))
  | .gtr, .int .u8 a, .int .u8 b => some (.bool (decide (a > b)))
  | .eql, .string a, .string b => some (.bool (a.toList == b.toList))
  | .neq, .string a, .string b => some (.bool (!(a.toList == b.toList)))
  | _, _, _ => none
def pureV (ρ : Operand → Value) : Op → Option Value
  | .move x => fz (ρ x)
  | .assign x => fz (ρ x)
  | .pick c a b => match ρ c with
    | .bool true => fz (ρ a)
    | .bool false => fz (ρ b)
    | _ => none
  | .binOp op _ x y _ => binV op (ρ x) (ρ y)
  | .unOp .not _ x => match ρ x with
    | .bool b => some (.bool (!b))
    | _ => none
  | .unOp .neg _ x => match ρ x with
    | .int .i64 n => some (.int .i64 (IntKind.i64.wrap (0 - n)))
    | _ => none
  | .nilCheck x => match ρ x with
    | .pointer (some a) => some (.pointer (some a))
    | .func (.func f) a b => some (.func (.func f) a b)
    | .iface t v => some (.iface t v)
    | _ => none
  | .extract x i => match ρ x with
    | .tuple vs => match vs.toList[i]? with
      | some v => fz v
      | none => none
    | _ => none
  | .makeFunc f a b => match fzl (a.toList.map ρ), fzl (b.toList.map ρ) with
    | some x, some y => some (.func f x.toArray y.toArray)
    | _, _ => none
  | .call ⟨.builtin .max, args, _⟩ => match args.toList.map ρ with
    | [.int .i64 a, .int .i64 b] => some (.int .i64 (max a b))
    | _ => none
  | .call ⟨.builtin .min, args, _⟩ => match args.toList.map ρ with
    | [.int .i64 a, .int .i64 b] => some (.int .i64 (min a b))
    | _ => none
  | _ => none

theorem binV_run {op : BinOp} {t : TypeId} {x y : Operand} {a b v : Value} (h : binV op a b = some v) : (do eqGuard op t x y a b; binOp op t a b : Sem Value).run P w = .ok v w := by
  unfold binV at h
  split at h <;> first | (cases h; done) | (simp only [Option.some.injEq] at h; subst h) <;> (simp [eqGuard, binOp, Op.intArith, Op.intCmp, Op.stringOp])

theorem andThen_assoc_ {α β γ : Type} (r : Result α) (f : α → World → Result β) (g : β → World → Result γ) : (r.andThen f).andThen g = r.andThen fun a w => (f a w).andThen g := by cases r <;> rfl
theorem max_if (a b : Int) : (if b > a then b else a) = max a b := by rw [Int.max_def]; split <;> split <;> omega
theorem min_if (a b : Int) : (if b < a then b else a) = min a b := by rw [Int.min_def]; split <;> split <;> omega

theorem op_pure {o : Oper} {v : Value} (h : pureV (ev e) o.op = some v) : OpV P e o v := by
  intro w
  unfold OpR execOp
  generalize ev e = ρ at h ⊢
  cases hop : o.op with
  | move x => rw [hop] at h; simp only [pureV] at h; simp [fz_eq h]
  | assign x => rw [hop] at h; simp only [pureV] at h; simp [fz_eq h]
  | pick c a b =>
    rw [hop] at h
    simp only [pureV] at h
    split at h
    · rename_i hc; simp [hc, asBool, fz_eq h]
    · rename_i hc; simp [hc, asBool, fz_eq h]
    · cases h
  | binOp op t x y t' =>
    rw [hop] at h
    simp only [pureV] at h
    have := binV_run (P := P) (w := w) (t := t) (x := x) (y := y) h
    simp only [Sem.run_bind] at this ⊢
    rw [this]; rfl
  | unOp op t x =>
    rw [hop] at h
    cases op <;> simp only [pureV] at h <;> first | (cases h; done) | skip
    all_goals
      split at h
      · rename_i b hb
        simp only [Option.some.injEq] at h
        subst h
        simp [hb, Op.unary, Op.intArith]
      · cases h
  | nilCheck x =>
    rw [hop] at h
    simp only [pureV] at h
    split at h
    · rename_i a ha; simp only [Option.some.injEq] at h; subst h; simp [ha]
    · rename_i f a b ha; simp only [Option.some.injEq] at h; subst h; simp [ha]
    · rename_i t v ha; simp only [Option.some.injEq] at h; subst h; simp [ha]
    · cases h
  | extract x i =>
    rw [hop] at h
    simp only [pureV] at h
    split at h
    · rename_i vs hvs
      split at h
      · rename_i u hu
        have hu' : vs[i]? = some u := by simpa using hu
        simp [hvs, Instr.extract, hu', fz_eq h]
      · cases h
    · cases h
  | makeFunc f a b =>
    rw [hop] at h
    simp only [pureV] at h
    split at h
    · rename_i x y hx hy
      simp only [Option.some.injEq] at h
      subst h
      have h1 := fzl_eq hx
      have h2 := fzl_eq hy
      have e1 : a.map ρ = x.toArray := by rw [← Array.toList_inj, Array.toList_map, h1]
      have e2 : b.map ρ = y.toArray := by rw [← Array.toList_inj, Array.toList_map, h2]
      simp [Instr.makeFunc, e1, e2]
    · cases h
  | call c =>
    rw [hop] at h
    obtain ⟨callee, args, tys⟩ := c
    cases callee with
    | value f => simp [pureV] at h
    | invoke r m => simp [pureV] at h
    | builtin b =>
      cases b <;> first | (simp only [pureV, reduceCtorEq] at h; done) | skip
      all_goals
        simp only [pureV] at h
        split at h
        · rename_i a b hab
          simp only [Option.some.injEq] at h
          subst h
          have e1 : args.map ρ = #[.int .i64 a, .int .i64 b] := by
            rw [← Array.toList_inj]; simpa using hab
          simp [resolve, invoke, builtin, e1, Builtin.max_, Builtin.min_, Builtin.max2, Builtin.min2, max_if, min_if]
        · cases h
  | _ => rw [hop] at h; simp [pureV] at h
end
end Go.Proofs.Ytbcgbcipigcbhaa
