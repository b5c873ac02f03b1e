/- Two elements of a row change places, in whatever order the region draws: the parts of memory as the class. -/
import Derived.Test.YtbcgbcipigcbhaaAppR
import Derived.Test.YtbcgbcipigcbhaaTriI
namespace Go.Proofs.Ytbcgbcipigcbhaa
open Go.RowKit
set_option linter.unusedVariables false
set_option linter.unusedSimpArgs false

/-- what the two loads yielded; the one store that was made, or not -/
def SWC (F : Nat → Prop) (W : World) (L L1 : List HA) (p q s : Nat) (vp vq : Value) (σ : List (Nat × Value)) (w : World) : Prop :=
  (∀ x ∈ σ, (x.1 = p → x.2 = vp) ∧ (x.1 = q → x.2 = vq)) ∧ (if (σ.any fun x => Nat.beq x.1 s) = true then St F W w L1 else St F W w L)
section
variable {F : Nat → Prop} {W w w' : World} {L L1 : List HA} {p q s : Nat} {vp vq : Value} {σ : List (Nat × Value)}
theorem SWC.start (S : St F W w L) : SWC F W L L1 p q s vp vq [] w := ⟨fun x hx => (by cases hx), S⟩
theorem SWC.gr (h : SWC F W L L1 p q s vp vq σ w) (g : Gr w w') : SWC F W L L1 p q s vp vq σ w' := by
  refine ⟨h.1, ?_⟩
  have := h.2
  split at this
  · rename_i e; rw [if_pos e]; exact this.gr g
  · rename_i e; rw [if_neg e]; exact this.gr g
theorem SWC.st0 (h : SWC F W L L1 p q s vp vq σ w) (hs : (σ.any fun x => Nat.beq x.1 s) = false) : St F W w L := by
  have := h.2
  rw [if_neg (by rw [hs]; simp)] at this
  exact this
theorem SWC.st1 (h : SWC F W L L1 p q s vp vq σ w) (hs : (σ.any fun x => Nat.beq x.1 s) = true) : St F W w L1 := by
  have := h.2
  rw [if_pos hs] at this
  exact this
theorem SWC.first {v : Value} (h : SWC F W L L1 p q s vp vq ((p, v) :: σ) w) : v = vp := (h.1 (p, v) List.mem_cons_self).1 rfl
theorem SWC.second {v : Value} (h : SWC F W L L1 p q s vp vq ((q, v) :: σ) w) : v = vq := (h.1 (q, v) List.mem_cons_self).2 rfl
theorem SWC.push {k : Nat} {v : Value} (h : SWC F W L L1 p q s vp vq σ w) (h0 : (σ.any fun x => Nat.beq x.1 s) = false) (hk : Nat.beq k s = false) (h1 : (k = p → v = vp) ∧ (k = q → v = vq)) : SWC F W L L1 p q s vp vq ((k, v) :: σ) w := by
  refine ⟨fun x hx => ?_, ?_⟩
  · rcases List.mem_cons.1 hx with rfl | hx
    · exact h1
    · exact h.1 x hx
  · rw [if_neg (by rw [List.any_cons, h0, Bool.or_false]; simp only [hk]; simp)]; exact h.st0 h0
theorem SWC.made {v : Value} (h : SWC F W L L1 p q s vp vq σ w) (h1 : (s = p → v = vp) ∧ (s = q → v = vq)) (S : St F W w' L1) : SWC F W L L1 p q s vp vq ((s, v) :: σ) w' := by
  refine ⟨fun x hx => ?_, ?_⟩
  · rcases List.mem_cons.1 hx with rfl | hx
    · exact h1
    · exact h.1 x hx
  · rw [if_pos (by rw [List.any_cons]; simp)]; exact S
end
section
variable {P : Program} {e : Nat → Value} {d : Option Tmp} {ty : TypeId} {ps : String} {af : Array Edge} {F : Nat → Prop} {W w : World} {L L' : List HA} {R : Value → World → Prop}
theorem to_r {v : Value} {o : Oper} (h : OpR P e o w v) (hR : R v w) : opTo P e o w R := by
  unfold OpR at h
  unfold opTo
  generalize (execOp (ev e) o).run P w = r at *
  cases r with
  | ok n w' => cases n <;> simp_all
  | halt x w' => simp_all
/-- a step told by a walk's law is a step told by itself -/
theorem opTo_of_rw {op : Op} (h : RW P #[] (fun e' w' => R (e' 0) w') [⟨some 0, op, ty, ps, af, none⟩] e w) : opTo P e ⟨d, op, ty, ps, af, none⟩ w R := by
  rw [RW_t rfl] at h
  exact h
theorem to_storeR {i : Nat} {t : TypeId} {x y : Operand} {el k n c j : Nat} {A : Option Addr} {xs : List Value} {v : Value} (S : St F W w L) (hi : getO L i = some (.row el k A n c xs)) (hz : (sizeOf t).run P w = .ok 1 w) (hx : ev e x = .pointer (at_ A j)) (hy : fz (ev e y) = some v) (hv : v.oneCell' = true) (hvc : v.cells = #[v]) (hj : j < xs.length)
    (hs : setO L i (.row el k A n c (xs.set j v)) = some L') (hr : ∀ w', St F W w' L' → R undef w') : opTo P e ⟨d, .store t x y, ty, ps, af, none⟩ w R :=
  opTo_of_rw (rw_storeR S hi hz hx hy hv hvc hj hs (fun w' S' => hr w' S'))
theorem to_storeRA {i : Nat} {t : TypeId} {x y : Operand} {el k n c j s : Nat} {A : Option Addr} {xs cs : List Value} (S : St F W w L) (hi : getO L i = some (.row el k A n c xs)) (hz : (sizeOf t).run P w = .ok s w) (hx : ev e x = .pointer (at_ A j)) (hy : ev e y = .agg cs.toArray) (hcs : cs.length = s) (hone : (cs.all fun v => v.oneCell') = true) (hj : j + s ≤ xs.length)
    (hs : setO L i (.row el k A n c (xs.take j ++ cs ++ xs.drop (j + s))) = some L') (h0 : Nat.blt 0 s = true) (hr : ∀ w', St F W w' L' → R undef w') : opTo P e ⟨d, .store t x y, ty, ps, af, none⟩ w R :=
  opTo_of_rw (rw_storeRA S hi hz hx hy hcs hone hj hs h0 (fun w' S' => hr w' S'))
end

/-! ### New parts side by side -/
def Mt (T : Nat → Value → HA → Prop) : List (Nat × Value) → List HA → Prop
  | [], [] => True
  | (k, v) :: σ, h :: Ps => T k v h ∧ Mt T σ Ps
  | _, _ => False
def CM (F : Nat → Prop) (W : World) (L : List HA) (T : Nat → Value → HA → Prop) (σ : List (Nat × Value)) (wq : World) : Prop := ∃ Ps, Mt T σ Ps ∧ St F W wq (Ps ++ L)
section
variable {F : Nat → Prop} {W wq w' : World} {L : List HA} {T : Nat → Value → HA → Prop} {σ : List (Nat × Value)}
theorem CM.start (S : St F W wq L) : CM F W L T [] wq := ⟨[], trivial, S⟩
theorem SepL.right {X : Nat → Prop} {w : World} : ∀ {Ps L : List HA}, SepL X w (Ps ++ L) → SepL X w L
  | [], _, h => h
  | _ :: Ps, _, h => SepL.right (Ps := Ps) h.2.2
theorem CM.st (h : CM F W L T σ wq) : St F W wq L := by
  obtain ⟨Ps, _, S⟩ := h
  exact ⟨S.fr, S.sep.right⟩
theorem CM.gr (h : CM F W L T σ wq) (g : Gr wq w') : CM F W L T σ w' := by
  obtain ⟨Ps, m, S⟩ := h
  exact ⟨Ps, m, S.gr g⟩
section
variable {P : Program} {e : Nat → Value} {d : Option Tmp} {ty : TypeId} {ps : String} {af : Array Edge}
theorem to_makeCM1 {t el : TypeId} {x y : Operand} {i bytes n c : Nat} {kl kc : IntKind} {z : Value} {m p : Int} (hq : CM F W L T σ wq) (hu : P.underlying t = some (.slice el)) (hI : (P.info? el).map (fun i => (i.zero, i.size, i.bytes)) = some (some z, 1, bytes)) (hz : z.cells = #[z])
    (hx : ev e x = .int kl m) (hy : ev e y = .int kc p) (hm : m = (n : Nat)) (hp : p = (c : Nat)) (hnc : n ≤ c) (hb : c * (bytes + 1) ≤ 140737488355328)
    (hT : ∀ A, SomeA A → T i (.slice A n c) (.row el 1 A n c (List.replicate n z))) : opTo P e ⟨d, .makeSlice t x y, ty, ps, af, none⟩ wq (fun v w' => CM F W L T ((i, v) :: σ) w') := by
  obtain ⟨Ps, hmt, S⟩ := hq
  exact opTo_of_rw (rw_makeS1 hu hI hz hx hy hm hp hnc hb S (fun A w' g S' sa => ⟨_ :: Ps, ⟨hT A sa, hmt⟩, S'⟩))
end
/-- what another walk made, from a world of this one on -/
theorem SepL.app {X : Nat → Prop} {w0 w : World} : ∀ {P L : List HA}, SepL (fun g => No g ∨ w0.heap.size ≤ g) w P → SepL X w L → (∀ h ∈ L, ∀ g, h.own g → g < w0.heap.size) → (∀ g, w0.heap.size ≤ g → X g) → SepL X w (P ++ L)
  | [], _, _, h, _, _ => h
  | a :: P, L, hP, hL, hlt, hX => by
    refine ⟨⟨hP.1.1, fun g hg => hX g ((hP.1.2 g hg).elim (fun e => e.elim) id)⟩, fun g hg h hh => ?_, SepL.app hP.2.2 hL hlt hX⟩
    rcases List.mem_append.1 hh with hh | hh
    · exact hP.2.1 g hg h hh
    · intro ho
      have h1 := hlt h hh g ho
      have h2 := (hP.1.2 g hg).elim (fun e => e.elim) id
      omega
theorem SepL.ltL {X : Nat → Prop} {w : World} : ∀ {L : List HA}, SepL X w L → ∀ h ∈ L, ∀ g, h.own g → g < w.heap.size
  | a :: L, S, h, hh, g, ho => (List.mem_cons.1 hh).elim (fun e => by subst e; exact h.lt w S.1.1 g ho) (fun e => SepL.ltL S.2.2 h e g ho)
theorem St.app {w : World} {Q : List HA} (S : St F W w L) (S' : St No w w' Q) : St F W w' (Q ++ L) := by
  have g := S'.out
  have S1 := S.gr g
  exact ⟨S1.fr, SepL.app S'.sep S1.sep (S.sep.ltL) (fun g hg => .inr (Nat.le_trans S.le hg))⟩
end
end Go.Proofs.Ytbcgbcipigcbhaa
