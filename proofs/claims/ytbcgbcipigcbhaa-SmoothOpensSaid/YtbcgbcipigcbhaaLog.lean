/- A logic of my own over the model's steps: what a piece of code does, said of a frame that is a function from slots to values; the rules for code, and the walk through a region, in order or in whatever order. -/
import Derived.Test.YtbcgbcipigcbhaaTwo
import Derived.Deep.LoopGhost
namespace Go.Proofs.Ytbcgbcipigcbhaa
open Go.RowKit
set_option linter.unusedVariables false
set_option linter.unusedSimpArgs false

def upd (e : Nat → Value) (d : Nat) (v : Value) : Nat → Value := fun k => match Nat.beq k d with
  | true => v
  | false => e k
def updO (e : Nat → Value) (d : Option Tmp) (v : Value) : Nat → Value := match d with
  | some d => upd e d v
  | none => e
def ev (e : Nat → Value) : Operand → Value
  | .tmp t => e t
  | .const v => v
  | .global g => .pointer (some ⟨g, 0, none⟩)
  | .func f => .func (.func f) #[] #[]

theorem upd_eq (e : Nat → Value) (d : Nat) (v : Value) (k : Nat) : upd e d v k = if k = d then v else e k := by
  unfold upd
  by_cases h : k = d
  · subst h; simp
  · have : Nat.beq k d = false := by
      cases hb : Nat.beq k d with
      | false => rfl
      | true => exact absurd (Nat.eq_of_beq_eq_true hb) h
    simp [this, h]
theorem upd_self {e : Nat → Value} {d : Nat} {v : Value} (h : e d = v) : upd e d v = e := by
  funext k
  rw [upd_eq]
  split
  · rename_i hk; subst hk; exact h.symm
  · rfl

structure Rep (N : Nat) (e : Nat → Value) (a : Act) : Prop where
  defers : a.defers = []
  size : a.tmps.size = N
  get : ∀ k, a.tmps.getD k undef = e k

def dstOk (N : Nat) : Option Tmp → Bool
  | some d => Nat.blt d N
  | none => true

theorem Rep.eval {N : Nat} {e : Nat → Value} {a : Act} (h : Rep N e a) : a.eval = ev e := by
  funext x
  cases x <;> simp only [Act.eval, ev]
  exact h.get _
theorem Rep.put {N : Nat} {e : Nat → Value} {a : Act} (h : Rep N e a) {d : Option Tmp} (hd : dstOk N d = true) (v : Value) : Rep N (updO e d v) (a.put d v) := by
  cases d with
  | none => exact h
  | some d =>
    have hd' : d < N := Nat.le_of_ble_eq_true hd
    refine ⟨h.defers, by simp [Act.put, h.size], fun k => ?_⟩
    show (a.tmps.setIfInBounds d v).getD k undef = upd e d v k
    rw [upd_eq]
    have hs := h.size
    by_cases hk : k = d
    · subst hk
      simp [Array.getElem?_setIfInBounds, hs, hd']
    · rw [if_neg hk, ← h.get k]
      simp only [Array.getD_eq_getD_getElem?, Array.getElem?_setIfInBounds, if_neg (Ne.symm hk)]

def yE (ops : Array Oper) (e : Nat → Value) (j : Nat) : Option Bool :=
  match (ops[j]?).bind (·.dst) with
  | some d => match e d with
    | .bool b => some b
    | _ => none
  | none => none
def wE (ops : Array Oper) (e : Nat → Value) (o : Oper) : Bool :=
  match o.guard with
  | none => true
  | some (j, b) => yE ops e j == some b
theorem Rep.yielded {N : Nat} {e : Nat → Value} {a : Act} (h : Rep N e a) (ops : Array Oper) (j : Nat) : yielded ops a.tmps j = yE ops e j := by
  unfold Go.yielded yE
  cases hd : (ops[j]?).bind (·.dst) with
  | none => rfl
  | some d =>
    simp only [Option.bind_some]
    have hg := h.get d
    rw [← hg]
    rcases Nat.lt_or_ge d a.tmps.size with hlt | hge
    · simp [hlt]; cases a.tmps[d] <;> rfl
    · simp [Array.getElem?_eq_none hge, undef]
theorem Rep.wanted {N : Nat} {e : Nat → Value} {a : Act} (h : Rep N e a) (ops : Array Oper) (o : Oper) : Region.wanted o (Go.yielded ops a.tmps) = wE ops e o := by
  unfold Region.wanted wE
  cases o.guard with
  | none => rfl
  | some p => obtain ⟨j, b⟩ := p; simp only [h.yielded]

/-! ### Regions -/
def opNext (P : Program) (e : Nat → Value) (o : Oper) (w : World) (next : Value → World → Prop) : Prop :=
  match (execOp (ev e) o).run P w with
  | .ok (.value v) w' => next v w'
  | .ok .skip w' => next undef w'
  | .ok (.enter f args) w' => Calls P f args w' fun en w'' => ∃ v, en = .returned v ∧ next v w''
  | _ => False
def RW (P : Program) (ops : Array Oper) (Q : (Nat → Value) → World → Prop) : List Oper → (Nat → Value) → World → Prop
  | [], e, w => Q e w
  | o :: rest, e, w => if wE ops e o = true then opNext P e o w (fun v w' => RW P ops Q rest (updO e o.dst v) w') else RW P ops Q rest (updO e o.dst undef) w

theorem Oper.wp_of_next {P : Program} {N : Nat} {e : Nat → Value} {a : Act} (hr : Rep N e a) {o : Oper} {w : World} {next : Value → World → Prop} {K : Act → World → Prop} {Q : Exit → Act → World → Prop}
    (h : opNext P e o w next) (hK : ∀ v w', next v w' → K (a.put o.dst v) w') : o.wp P a w K Q := by
  unfold Oper.wp
  rw [hr.eval]
  unfold opNext at h
  generalize (execOp (ev e) o).run P w = r at *
  cases r with
  | ok n w' =>
    cases n <;> simp only [Oper.upon] <;> first | exact h.elim | exact hK _ _ h | skip
    case enter f args =>
      exact h.mono fun en w'' ⟨v, he, hn⟩ => by subst he; exact hK _ _ hn
  | halt x w' => exact h.elim

theorem wpList_of_RW {P : Program} {ops : Array Oper} {N : Nat} {Q : (Nat → Value) → World → Prop} {Q' : Exit → Act → World → Prop} (hQ : ∀ e a w, Rep N e a → Q e w → Q' .normal a w) :
    ∀ (l : List Oper) (e : Nat → Value) (a : Act) (w : World), (l.all fun o => dstOk N o.dst) = true → Rep N e a → RW P ops Q l e w → wpList P ops Q' l a w
  | [], e, a, w, _, hr, h => hQ e a w hr h
  | o :: rest, e, a, w, hd, hr, h => by
    simp only [List.all_cons, Bool.and_eq_true] at hd
    unfold wpList
    rw [hr.wanted]
    simp only [RW] at h
    split
    · rename_i hw
      rw [if_pos hw] at h
      exact .inl (Oper.wp_of_next hr h fun v w' hn => wpList_of_RW hQ rest _ _ _ hd.2 (hr.put hd.1 v) hn)
    · rename_i hw
      rw [if_neg hw] at h
      exact wpList_of_RW hQ rest _ _ _ hd.2 (hr.put hd.1 undef) h

/-- In every world of a class one value. -/
def opQuiet (P : Program) (C : World → Prop) (e : Nat → Value) (o : Oper) (v : Value) : Prop := ∀ w, C w →
  match (execOp (ev e) o).run P w with
  | .ok (.value u) w' => w' = w ∧ u = v
  | .ok .skip w' => w' = w ∧ v = undef
  | .ok (.enter f args) w' => w' = w ∧ Calls P f args w (fun en w'' => en = .returned v ∧ C w'')
  | _ => False
def RQ (P : Program) (ops : Array Oper) (C : World → Prop) (Q : (Nat → Value) → Prop) : List Oper → (Nat → Value) → Prop
  | [], e => Q e
  | o :: rest, e => if wE ops e o = true then ∃ v, opQuiet P C e o v ∧ RQ P ops C Q rest (updO e o.dst v) else RQ P ops C Q rest (updO e o.dst undef)

theorem wpQuiet_of_RQ {P : Program} {ops : Array Oper} {C : World → Prop} {N : Nat} {Q : (Nat → Value) → Prop} {Q' : Act → Prop} (hQ : ∀ e a, Rep N e a → Q e → Q' a) :
    ∀ (l : List Oper) (e : Nat → Value) (a : Act), (l.all fun o => dstOk N o.dst) = true → Rep N e a → RQ P ops C Q l e → wpQuiet P ops C Q' l a
  | [], e, a, _, hr, h => hQ e a hr h
  | o :: rest, e, a, hd, hr, h => by
    simp only [List.all_cons, Bool.and_eq_true] at hd
    unfold wpQuiet
    rw [hr.wanted]
    simp only [RQ] at h
    split
    · rename_i hw
      rw [if_pos hw] at h
      obtain ⟨v, hq, hn⟩ := h
      refine ⟨v, fun w hw' => ?_, wpQuiet_of_RQ hQ rest _ _ hd.2 (hr.put hd.1 v) hn⟩
      have := hq w hw'
      unfold Oper.quietAt
      rw [hr.eval]
      generalize (execOp (ev e) o).run P w = r at *
      cases r with
      | ok n w' => cases n <;> first | exact this | exact this.elim
      | halt x w' => exact this.elim
    · rename_i hw
      rw [if_neg hw] at h
      exact wpQuiet_of_RQ hQ rest _ _ hd.2 (hr.put hd.1 undef) h

/-! ### Code -/
def codeOk (N : Nat) : Code → Bool
  | .region _ ops _ => ops.toList.all fun o => dstOk N o.dst
  | .seq a b => codeOk N a && codeOk N b
  | .cond _ a b => codeOk N a && codeOk N b
  | .block _ c => codeOk N c
  | .loop c => codeOk N c
  | .scope c => codeOk N c
  | _ => true
def CW (P : Program) (N : Nat) (c : Code) (Q : Exit → (Nat → Value) → World → Prop) (e : Nat → Value) (w : World) : Prop :=
  codeOk N c = true → ∀ a, Rep N e a → c.wp P (fun x a' w' => ∃ e', Rep N e' a' ∧ Q x e' w') a w
/-- What follows a piece that ends as it should. -/
def Then (next : (Nat → Value) → World → Prop) (Q : Exit → (Nat → Value) → World → Prop) : Exit → (Nat → Value) → World → Prop
  | .normal, e, w => next e w
  | x, e, w => Q x e w
def InB (id : Nat) (Q : Exit → (Nat → Value) → World → Prop) : Exit → (Nat → Value) → World → Prop
  | .exit id', e, w => match Nat.beq id' id with
    | true => Q .normal e w
    | false => Q (.exit id') e w
  | x, e, w => Q x e w

section
variable {P : Program} {N : Nat} {Q : Exit → (Nat → Value) → World → Prop} {e : Nat → Value} {w : World}
theorem CW.mono {c : Code} {Q' : Exit → (Nat → Value) → World → Prop} (h : CW P N c Q e w) (hq : ∀ x e w, Q x e w → Q' x e w) : CW P N c Q' e w :=
  fun hc a hr => wp_mono (h hc a hr) fun x a' w' ⟨e', hr', hQ⟩ => ⟨e', hr', hq _ _ _ hQ⟩
theorem cw_skip (h : Q .normal e w) : CW P N .skip Q e w := fun _ a hr => wp_skip ⟨e, hr, h⟩
theorem cw_exit {id : Nat} (h : Q (.exit id) e w) : CW P N (.exit id) Q e w := fun _ a hr => wp_exit ⟨e, hr, h⟩
theorem cw_ret (h : Q .ret e w) : CW P N .ret Q e w := fun _ a hr => wp_ret ⟨e, hr, h⟩
theorem cw_seq {x y : Code} (h : CW P N x (Then (CW P N y Q) Q) e w) : CW P N (.seq x y) Q e w := fun hc a hr => by
  simp only [codeOk, Bool.and_eq_true] at hc
  refine wp_seq (wp_mono (h hc.1 a hr) ?_)
  rintro x' a' w' ⟨e', hr', hq⟩
  cases x' <;> first | exact hq hc.2 a' hr' | exact ⟨e', hr', hq⟩
theorem cw_cond {c : Operand} {x y : Code} {t : Bool} (hc : ev e c = .bool t) (ht : t = true → CW P N x Q e w) (hf : t = false → CW P N y Q e w) : CW P N (.cond c x y) Q e w := fun hk a hr => by
  simp only [codeOk, Bool.and_eq_true] at hk
  exact wp_cond_split (by rw [hr.eval]; exact hc) (fun h => ht h hk.1 a hr) (fun h => hf h hk.2 a hr)
theorem cw_true {c : Operand} {x y : Code} (hc : ev e c = .bool true) (h : CW P N x Q e w) : CW P N (.cond c x y) Q e w := cw_cond hc (fun _ => h) (fun h => by cases h)
theorem cw_false {c : Operand} {x y : Code} (hc : ev e c = .bool false) (h : CW P N y Q e w) : CW P N (.cond c x y) Q e w := cw_cond hc (fun h => by cases h) (fun _ => h)
theorem cw_block {id : Nat} {c : Code} (h : CW P N c (InB id Q) e w) : CW P N (.block id c) Q e w := fun hk a hr => by
  refine wp_block (wp_mono (h hk a hr) ?_)
  rintro x' a' w' ⟨e', hr', hq⟩
  cases x' with
  | exit id' =>
    show if id' = id then _ else _
    simp only [InB] at hq
    by_cases hid : id' = id
    · subst hid
      rw [if_pos rfl]
      simp at hq
      exact ⟨e', hr', hq⟩
    · have : Nat.beq id' id = false := by
        cases hb : Nat.beq id' id with
        | false => rfl
        | true => exact absurd (Nat.eq_of_beq_eq_true hb) hid
      rw [if_neg hid]
      rw [this] at hq
      exact ⟨e', hr', hq⟩
  | _ => exact ⟨e', hr', hq⟩
/-- A loop: an invariant over a number that each round lowers. -/
theorem cw_loop {c : Code} (I : Nat → (Nat → Value) → World → Prop) (n : Nat) (h₀ : I n e w)
    (round : ∀ n e w, I n e w → CW P N c (Then (fun e' w' => ∃ n', n' < n ∧ I n' e' w') Q) e w) : CW P N (.loop c) Q e w := fun hk a hr => by
  refine wp_loop_ghost (fun n a w => ∃ e, Rep N e a ∧ I n e w) n ⟨e, hr, h₀⟩ ?_
  rintro n a w ⟨e, hr, hI⟩
  refine wp_mono (round n e w hI hk a hr) ?_
  rintro x a' w' ⟨e', hr', hq⟩
  cases x with
  | normal =>
    obtain ⟨n', hlt, hI'⟩ := hq
    exact ⟨n', hlt, e', hr', hI'⟩
  | _ => exact ⟨e', hr', hq⟩
theorem cw_region {id : Nat} {l : List Oper} (h : RW P l.toArray (fun e w => Q .normal e w) l e w) : CW P N (.region id l.toArray false) Q e w := fun hk a hr => by
  simp only [codeOk] at hk
  exact wp_region_lit (wpList_of_RW (fun e a w hr h => ⟨e, hr, h⟩) l e a w hk hr h)
/-- A region that draws its order: a head of operations that read, in whatever order, and a tail. -/
theorem cw_draw {C : World → Prop} {id : Nat} {l : List Oper} (hd tl : List Nat) (hm : P.follows .mixedOrders = true)
    (hB : (orderB l.toArray hd tl && (hd.all fun i => decide (i < l.length)) && (tl.all fun i => decide (i < l.length))) = true) (hC : C w.drew)
    (h : RQ P l.toArray C (fun e' => ∀ w', C w' → RW P l.toArray (fun e w => Q .normal e w) (pickL l tl) e' w') (pickL l hd) e) : CW P N (.region id l.toArray true) Q e w := fun hk a hr => by
  simp only [Bool.and_eq_true] at hB
  simp only [codeOk] at hk
  have hsub : ∀ is : List Nat, (is.all fun i => decide (i < l.length)) = true → ((pickL l is).all fun o => dstOk N o.dst) = true := fun is his => by
    have h1 := pickL_map l is his
    refine List.all_eq_true.2 fun o ho => ?_
    have h2 : some o ∈ (pickL l is).map some := List.mem_map.2 ⟨o, ho, rfl⟩
    rw [← h1] at h2
    obtain ⟨i, _, hi⟩ := List.mem_map.1 h2
    have h3 : l[i]? = some o := by simpa using hi
    exact List.all_eq_true.1 hk o (List.mem_of_getElem? h3)
  refine wp_region_two (C := C) hd tl _ _ hm hB.1.1 (pickL_map l hd hB.1.2) (pickL_map l tl hB.2) hC ?_
  exact wpQuiet_of_RQ (fun e' a' hr' hq w' hw' => wpList_of_RW (fun e a w hr h => ⟨e, hr, h⟩) _ e' a' w' (hsub tl hB.2) hr' (hq w' hw')) _ e a (hsub hd hB.1.2) hr h
end

/-! ### Functions -/
def callableB (P : Program) (f : FuncId) : Bool :=
  match P.funcs[f]? with
  | some fn => !(fn.name == "runtime.NumGoroutine") && fn.body.isSome
  | none => false
/-- A call of a Go function: it returns; R of what it returns and of the world behind it. -/
def Fn (P : Program) (f : FuncId) (args : List Value) (w : World) (R : Value → World → Prop) : Prop :=
  callableB P f = true ∧ Calls P f args.toArray w fun en w' => ∃ v, en = .returned v ∧ R v w'
theorem Fn.mono {P : Program} {f : FuncId} {args : List Value} {w : World} {R R' : Value → World → Prop} (h : Fn P f args w R) (hr : ∀ v w', R v w' → R' v w') : Fn P f args w R' :=
  ⟨h.1, h.2.mono fun _ _ ⟨v, he, hR⟩ => ⟨v, he, hr _ _ hR⟩⟩
theorem run_callFunc_E {P : Program} {f : FuncId} (h : callableB P f = true) (args : Array Value) (w : World) : (callFunc f args).run P w = .ok (.enter f args) w := by
  unfold callableB at h
  unfold callFunc
  cases hf : P.funcs[f]? with
  | none => rw [hf] at h; cases h
  | some fn =>
    rw [hf] at h
    simp only [Bool.and_eq_true, Bool.not_eq_true'] at h
    have h1 : fn.name ≠ "runtime.NumGoroutine" := by simpa using h.1
    have h2 : fn.body ≠ none := by cases hb : fn.body <;> simp_all
    simp [hf, h1, h2]

def envOf (args : List Value) : Nat → Value := fun k => args.getD k undef
/-- The results, out of the frame. -/
def Res (P : Program) (R : Value → World → Prop) (rs : Array ResultVar) (e : Nat → Value) (w : World) : Prop := ∃ v, (∀ (fn : Func) (tmps : Array Value), fn.results = rs → (∀ k, tmps.getD k undef = e k) → (results fn tmps).run P w = .ok v w) ∧ R v w
def QF (P : Program) (rs : Array ResultVar) (R : Value → World → Prop) : Exit → (Nat → Value) → World → Prop
  | .normal, e, w | .ret, e, w => Res P R rs e w
  | _, _, _ => False
theorem Fn_enter {P : Program} {f : FuncId} {fn : Func} {c : Code} {args : List Value} {w : World} {R : Value → World → Prop} {rs : Array ResultVar} {N : Nat}
    (hf : P.funcs[f]? = some fn) (hb : fn.body = some c) (hr : fn.results = rs) (hN : fn.ntmps = N) (hcl : callableB P f = true) (hk : (codeOk N c && Nat.ble args.length N) = true)
    (h : CW P N c (QF P rs R) (envOf args) w) : Fn P f args w R := by
  simp only [Bool.and_eq_true] at hk
  have hle : args.length ≤ N := Nat.le_of_ble_eq_true hk.2
  refine ⟨hcl, calls_of_wp hf hb ?_⟩
  refine wp_mono (h hk.1 _ ⟨rfl, by simp [hN]; omega, fun k => ?_⟩) ?_
  · simp only [envOf, List.getD_eq_getElem?_getD, Array.getD_eq_getD_getElem?, Array.getElem?_append, List.size_toArray, List.getElem?_toArray, hN]
    split
    · rfl
    · rename_i hge
      rw [List.getElem?_eq_none (by omega)]
      simp only [Array.getElem?_replicate]
      split <;> rfl
  · rintro x a' w' ⟨e', hr', hq⟩
    cases x <;> first | exact hq.elim | skip
    all_goals
      obtain ⟨v, hv, hR⟩ := hq
      exact ⟨hr'.defers, v, hv fn _ hr hr'.get, v, rfl, hR⟩
end Go.Proofs.Ytbcgbcipigcbhaa
