/- A grid that is filled. -/
import Derived.Test.YtbcgbcipigcbhaaGridB
namespace Go.Proofs.Ytbcgbcipigcbhaa
open Go.RowKit
set_option linter.unusedVariables false
set_option linter.unusedSimpArgs false
set_option maxRecDepth 100000

/-! ### Lists of parts of one length -/
theorem flatMap_len {α β : Type} {f : α → List β} {m : Nat} (hf : ∀ a, (f a).length = m) (l : List α) : (l.flatMap f).length = l.length * m := by
  induction l with
  | nil => simp
  | cons a l ih => rw [List.flatMap_cons, List.length_append, ih, hf, List.length_cons, Nat.succ_mul, Nat.add_comm]
theorem flatMap_part {α β : Type} {f : α → List β} {m : Nat} (hf : ∀ a, (f a).length = m) : ∀ (l : List α) (k : Nat) (a : α) (d n : Nat), l[k]? = some a → d + n ≤ m → ((l.flatMap f).drop (k * m + d)).take n = ((f a).drop d).take n
  | [], k, a, d, n, h, _ => by cases h
  | b :: l, 0, a, d, n, h, hd => by
    obtain rfl : b = a := by simpa using h
    rw [List.flatMap_cons, Nat.zero_mul, Nat.zero_add, List.drop_append_of_le_length (by rw [hf]; omega), List.take_append_of_le_length (by rw [List.length_drop, hf]; omega)]
  | b :: l, k + 1, a, d, n, h, hd => by
    have ih := flatMap_part hf l k a d n (by simpa using h) hd
    rw [List.flatMap_cons, Nat.succ_mul, show k * m + m + d = m + (k * m + d) by omega, ← List.drop_drop, List.drop_left' (hf b)]
    exact ih
theorem flatMap_one {α β : Type} {f : α → List β} {m : Nat} (hf : ∀ a, (f a).length = m) {l : List α} {k : Nat} {a : α} (h : l[k]? = some a) : ((l.flatMap f).drop (k * m)).take m = f a := by
  have := flatMap_part hf l k a 0 m h (by omega)
  rw [Nat.add_zero] at this
  rw [this, List.drop_zero, List.take_of_length_le (by rw [hf]; omega)]
theorem flatMap_get {α β : Type} {f : α → List β} {m : Nat} (hf : ∀ a, (f a).length = m) {l : List α} {k : Nat} {a : α} (h : l[k]? = some a) {j : Nat} (hj : j < m) : (l.flatMap f)[k * m + j]? = (f a)[j]? := by
  have := flatMap_part hf l k a j 1 h (by omega)
  have e1 : ∀ (L : List β) (d : Nat), L[d]? = ((L.drop d).take 1)[0]? := fun L d => by simp [List.getElem?_take]
  rw [e1, this, ← e1]

/-! ### Pieces -/
theorem pieceC_len (x0 y0 x1 y1 x y : Int) : (pieceC x0 y0 x1 y1 x y).length = 4 := rfl
theorem rowC_len (x0 y0 x1 y1 y : Int) (k : Nat) : (rowC x0 y0 x1 y1 y k).length = k * 4 := by
  unfold rowC; rw [flatMap_len (fun a => pieceC_len _ _ _ _ _ _), List.length_range]
theorem piecesC_at (x0 y0 x1 y1 : Int) (ny i j : Nat) (hi : i < tilesN x0 x1) (hj : j < ny) :
    ((piecesC x0 y0 x1 y1 ny).drop ((j * tilesN x0 x1 + i) * 4)).take 4 = pieceC x0 y0 x1 y1 (x0 - x0 % 16 + 16 * (i : Int)) (y0 - y0 % 16 + 16 * (j : Int)) := by
  have h1 := flatMap_part (f := fun (j : Nat) => rowC x0 y0 x1 y1 (y0 - y0 % 16 + 16 * (j : Int)) (tilesN x0 x1)) (fun a => rowC_len _ _ _ _ _ _) (List.range ny) j j (i * 4) 4 (by simp [hj]) (by omega)
  rw [Nat.add_mul, Nat.mul_assoc]
  unfold piecesC
  rw [h1]
  exact flatMap_one (fun a => pieceC_len _ _ _ _ _ _) (by simp [hi])
theorem pieces_N (x0 y0 x1 y1 : Int) (h : 0 ≤ x0 ∧ x0 ≤ x1 ∧ x1 < 1024 ∧ 0 ≤ y0 ∧ y0 ≤ y1 ∧ y1 < 1024) (W : World) :
    Fn Try.prog 116 [.agg #[.int .i64 x0, .int .i64 y0, .int .i64 x1, .int .i64 y1]] W (RetNew id 75 4 (tilesN y0 y1 * tilesN x0 x1) (piecesC x0 y0 x1 y1 (tilesN y0 y1)) W) :=
  (pieces_E x0 y0 x1 y1 h W).mono fun v w' ⟨A, c, hv, ho, hg⟩ => ⟨A, c, hv, ho.base (Nat.zero_le _), fun g hg' => by
    cases A with
    | none => cases hg'
    | some a => exact (ho.lt g (by have : a.block = g := by injection hg'
                                   show Option.some a.block = _; rw [this])).1, hg⟩

/-! ### A tile of a grid, filled -/
def gridB (N p : Nat) (A : Option Addr) (bs : Nat → Nat) (Rs : Nat → Option Nat) (g : Nat) : Prop := g = p ∨ ownA A g ∨ ∃ t, t < N ∧ (g = bs t ∨ Rs t = some g)
theorem GridAt.lt {w : World} {p gw gh cap : Nat} {c : Nat → Int} {A : Option Addr} {bs : Nat → Nat} {Rs : Nat → Option Nat} (h : GridAt w p gw gh c A cap bs Rs) {g : Nat} (hg : gridB (acr gw * acr gh) p A bs Rs g) : g < w.heap.size := by
  rcases hg with rfl | hg | ⟨t, ht, hg⟩
  · exact h.top.lt
  · exact h.row.lt hg
  · exact (h.slab t ht).lt hg
theorem GridAt.keep {w w' : World} {p gw gh cap : Nat} {c : Nat → Int} {A : Option Addr} {bs : Nat → Nat} {Rs : Nat → Option Nat} (h : GridAt w p gw gh c A cap bs Rs) (hk : ∀ g, gridB (acr gw * acr gh) p A bs Rs g → w'.heap[g]? = w.heap[g]?) : GridAt w' p gw gh c A cap bs Rs :=
  ⟨h.sw, h.sh, h.top.keep (hk p (.inl rfl)), h.row.keep (fun g hg => hk g (.inr (.inl hg))), fun t ht => (h.slab t ht).keep (fun g hg => hk g (.inr (.inr ⟨t, ht, hg⟩))), h.inj, h.injR⟩
def HA.grid (p gw gh : Nat) (c : Nat → Int) (A : Option Addr) (cap : Nat) (bs : Nat → Nat) (Rs : Nat → Option Nat) : HA :=
  ⟨gridB (acr gw * acr gh) p A bs Rs, fun w => GridAt w p gw gh c A cap bs Rs, fun _ _ h _ hG => hG.keep h, fun _ hG _ hg => hG.lt hg⟩
theorem St.grid {F : Nat → Prop} {W w : World} {L : List HA} (S : St F W w L) {i p gw gh cap : Nat} {c : Nat → Int} {A : Option Addr} {bs : Nat → Nat} {Rs : Nat → Option Nat} (hi : getO L i = some (.grid p gw gh c A cap bs Rs)) : GridAt w p gw gh c A cap bs Rs := S.ok hi
theorem cell_split {gw X Y : Nat} (hX : X < gw) : (Y * gw + X) % gw = X ∧ (Y * gw + X) / gw = Y := by
  constructor
  · rw [Nat.mul_add_mod_self_right, Nat.mod_eq_of_lt hX]
  · rw [Nat.add_comm, Nat.add_mul_div_right _ _ (by omega), Nat.div_eq_of_lt hX, Nat.zero_add]
theorem slab_type {w : World} {b : Nat} {R : Option Nat} {sw sh : Nat} {c : Nat → Int} (h : SlabIs w b R sw sh c) {g : Nat} (hg : g = b ∨ R = some g) : ∃ t l, Blk w g t l ∧ (t = 196 ∨ t = 21) := by
  obtain ⟨_, h⟩ := h
  cases R with
  | none => obtain ⟨x, hB, _⟩ := h; exact hg.elim (fun e => by subst e; exact ⟨_, _, hB, .inl rfl⟩) (fun e => by cases e)
  | some g' =>
    obtain ⟨cap, hB, hR⟩ := h
    rcases hg with rfl | hg
    · exact ⟨_, _, hB, .inl rfl⟩
    · injection hg with hg
      subst hg
      rcases hR.form with ⟨h, _⟩ | ⟨g, l, h, hB', _⟩
      · cases h
      · injection h with h; injection h with h; subst h; exact ⟨_, _, hB', .inr rfl⟩
theorem SlabIs.blk {w : World} {b : Nat} {R : Option Nat} {sw sh : Nat} {c : Nat → Int} (h : SlabIs w b R sw sh c) : ∃ l, Blk w b 196 l := by
  obtain ⟨_, h⟩ := h
  cases R with
  | none => obtain ⟨x, hB, _⟩ := h; exact ⟨_, hB⟩
  | some g => obtain ⟨cap, hB, _⟩ := h; exact ⟨_, hB⟩
theorem SlabIs.rblk {w : World} {b g : Nat} {sw sh : Nat} {c : Nat → Int} (h : SlabIs w b (some g) sw sh c) : ∃ l, Blk w g 21 l := by
  obtain ⟨_, cap, hB, hR⟩ := h
  rcases hR.form with ⟨h, _⟩ | ⟨g', l, h, hB', _⟩
  · cases h
  · injection h with h; injection h with h; subst h; exact ⟨_, hB'⟩
theorem GridAt.fillTile {w w' : World} {p gw gh cap : Nat} {c : Nat → Int} {A : Option Addr} {bs : Nat → Nat} {Rs : Nat → Option Nat} (h : GridAt w p gw gh c A cap bs Rs) {X0 Y0 X1 Y1 : Nat} {v : Int}
    (hX : X0 ≤ X1 ∧ X1 < gw ∧ X0 / 16 = X1 / 16) (hY : Y0 ≤ Y1 ∧ Y1 < gh ∧ Y0 / 16 = Y1 / 16)
    (hP : SlabP w (bs (Y0 / 16 * acr gw + X0 / 16)) (Rs (Y0 / 16 * acr gw + X0 / 16)) (tsz gw (X0 / 16)) (tsz gh (Y0 / 16)) (fillC (tsz gw (X0 / 16)) (X0 % 16 : Nat) (Y0 % 16 : Nat) (X1 % 16 : Nat) (Y1 % 16 : Nat) v (tileC gw c (Y0 / 16 * acr gw + X0 / 16))) w') :
    ∃ Rs', GridAt w' p gw gh (fillC gw X0 Y0 X1 Y1 v c) A cap bs Rs' ∧ Fr (gridB (acr gw * acr gh) p A bs Rs) w w' ∧ ∀ g, gridB (acr gw * acr gh) p A bs Rs' g → gridB (acr gw * acr gh) p A bs Rs g ∨ w.heap.size ≤ g := by
  obtain ⟨R', hS, hF, hR⟩ := hP
  have ht := tile_lt (gw := gw) (gh := gh) (x := X0) (y := Y0) (by omega) (by omega)
  have hto := tile_of (gw := gw) (b := Y0 / 16) (div_lt_acr (x := X0) (by omega))
  generalize hT : Y0 / 16 * acr gw + X0 / 16 = T at *
  have hS0 := h.slab T ht
  have hpos := acr_pos h.sw.1
  have hFown : ∀ g, (g = bs T ∨ Rs T = some g) → gridB (acr gw * acr gh) p A bs Rs g := fun g hg => .inr (.inr ⟨T, ht, hg⟩)
  have hnew : ∀ g, R' = some g → ∀ u, u < acr gw * acr gh → u ≠ T → Rs u = some g → False := fun g hg u hu hne hu2 => by
    rcases hR g hg with e | e
    · exact hne (h.injR u T g hu ht hu2 e)
    · have := (h.slab u hu).lt (.inr hu2); omega
  refine ⟨fun u => if u = T then R' else Rs u, ⟨h.sw, h.sh, ?_, ?_, fun u hu => ?_, h.inj, fun u u' g hu hu' e1 e2 => ?_⟩, hF.weak hFown, fun g hg => ?_⟩
  · refine h.top.fr hF fun hg => ?_
    obtain ⟨t, l, hB, hty⟩ := slab_type hS0 hg
    have := (h.top.inj hB).1
    rcases hty with rfl | rfl <;> exact absurd this (by decide)
  · refine h.row.keep fun g hg => hF.block g (h.row.lt hg) fun hg' => ?_
    obtain ⟨t, l, hB, hty⟩ := slab_type hS0 hg'
    exact blk_ne_row hB h.row (by rcases hty with rfl | rfl <;> decide) hg
  · have hu1 : u % acr gw < acr gw := Nat.mod_lt _ (by omega)
    by_cases e : u = T
    · subst e
      rw [if_pos rfl]
      rw [hto.1, hto.2]
      refine hS.congr fun i hi => ?_
      have hz := tsz_pos (gw |> fun _ => div_lt_acr (n := gw) (x := X0) (by omega))
      have hm : i % tsz gw (X0 / 16) < tsz gw (X0 / 16) := Nat.mod_lt _ (by omega)
      have hlt := tile_idx_lt (gw := gw) (gh := gh) (t := u) (i := i) ht h.sw.1 (by rw [hto.1, hto.2]; exact hi)
      have hXlt : 16 * (X0 / 16) + i % tsz gw (X0 / 16) < gw := by
        have : tsz gw (X0 / 16) ≤ gw - 16 * (X0 / 16) := by unfold tsz; omega
        generalize i % tsz gw (X0 / 16) = q at *
        omega
      have hsp := cell_split (gw := gw) (X := 16 * (X0 / 16) + i % tsz gw (X0 / 16)) (Y := 16 * (Y0 / 16) + i / tsz gw (X0 / 16)) hXlt
      have hm16 : i % tsz gw (X0 / 16) < 16 := by omega
      have hd16 : i / tsz gw (X0 / 16) < 16 := by
        have h4 : i / tsz gw (X0 / 16) < tsz gh (Y0 / 16) := Nat.div_lt_of_lt_mul hi
        have : tsz gh (Y0 / 16) ≤ 16 := by unfold tsz; omega
        omega
      unfold fillC tileC
      rw [hto.1, hto.2]
      dsimp only
      have key : inR (tsz gw (X0 / 16)) (X0 % 16 : Nat) (Y0 % 16 : Nat) (X1 % 16 : Nat) (Y1 % 16 : Nat) i ↔ inR gw X0 Y0 X1 Y1 ((16 * (Y0 / 16) + i / tsz gw (X0 / 16)) * gw + (16 * (X0 / 16) + i % tsz gw (X0 / 16))) := by
        unfold inR
        rw [hsp.1, hsp.2]
        generalize i % tsz gw (X0 / 16) = q at *
        generalize i / tsz gw (X0 / 16) = r at *
        omega
      by_cases hin : inR (tsz gw (X0 / 16)) (X0 % 16 : Nat) (Y0 % 16 : Nat) (X1 % 16 : Nat) (Y1 % 16 : Nat) i
      · rw [if_pos hin, if_pos (key.1 hin)]
      · rw [if_neg hin, if_neg (fun h => hin (key.2 h))]
    · rw [if_neg e]
      have hk := (h.slab u hu).keep (w' := w') fun g hg => hF.block g ((h.slab u hu).lt hg) fun hg' => by
        obtain ⟨lu, hBu⟩ := (h.slab u hu).blk
        obtain ⟨lt, hBt⟩ := hS0.blk
        rcases hg with rfl | hg
        · rcases hg' with hg' | hg'
          · exact e (h.inj u T hu ht hg')
          · rw [hg'] at hS0
            obtain ⟨l2, hB2⟩ := hS0.rblk
            exact absurd (hBu.inj hB2).1 (by decide)
        · rcases hg' with rfl | hg'
          · have hsu := h.slab u hu
            rw [hg] at hsu
            obtain ⟨l2, hB2⟩ := hsu.rblk
            exact absurd (hBt.inj hB2).1 (by decide)
          · exact e (h.injR u T g hu ht hg hg')
      refine hk.congr fun i hi => ?_
      have hz := tsz_pos hu1
      have hm : i % tsz gw (u % acr gw) < tsz gw (u % acr gw) := Nat.mod_lt _ (by omega)
      have hd16 : i / tsz gw (u % acr gw) < 16 := by
        have h4 : i / tsz gw (u % acr gw) < tsz gh (u / acr gw) := Nat.div_lt_of_lt_mul hi
        have : tsz gh (u / acr gw) ≤ 16 := by unfold tsz; omega
        omega
      have hXlt : 16 * (u % acr gw) + i % tsz gw (u % acr gw) < gw := by
        have : tsz gw (u % acr gw) ≤ gw - 16 * (u % acr gw) := by unfold tsz; omega
        generalize i % tsz gw (u % acr gw) = q at *
        omega
      have hsp := cell_split (gw := gw) (X := 16 * (u % acr gw) + i % tsz gw (u % acr gw)) (Y := 16 * (u / acr gw) + i / tsz gw (u % acr gw)) hXlt
      unfold tileC fillC
      try dsimp only
      rw [if_neg]
      intro hin
      unfold inR at hin
      rw [hsp.1, hsp.2] at hin
      refine e ?_
      rw [← hT, ← Nat.div_add_mod u (acr gw)]
      have e1 : u / acr gw = Y0 / 16 ∧ u % acr gw = X0 / 16 := by
        generalize i % tsz gw (u % acr gw) = q at *
        generalize i / tsz gw (u % acr gw) = r at *
        omega
      rw [e1.1, e1.2, Nat.mul_comm]
  · try dsimp only at e1 e2
    by_cases h1 : u = T
    · by_cases h2 : u' = T
      · rw [h1, h2]
      · rw [if_pos h1] at e1; rw [if_neg h2] at e2; exact (hnew g e1 u' hu' h2 e2).elim
    · by_cases h2 : u' = T
      · rw [if_neg h1] at e1; rw [if_pos h2] at e2; exact (hnew g e2 u hu h1 e1).elim
      · rw [if_neg h1] at e1; rw [if_neg h2] at e2; exact h.injR u u' g hu hu' e1 e2
  · rcases hg with rfl | hg | ⟨u, hu, hg⟩
    · exact .inl (.inl rfl)
    · exact .inl (.inr (.inl hg))
    · rcases hg with hg | hg
      · exact .inl (.inr (.inr ⟨u, hu, .inl hg⟩))
      · try dsimp only at hg
        by_cases e : u = T
        · rw [if_pos e] at hg
          rcases hR g hg with h1 | h1
          · exact .inl (.inr (.inr ⟨T, ht, .inr h1⟩))
          · exact .inr h1
        · rw [if_neg e] at hg
          exact .inl (.inr (.inr ⟨u, hu, .inr hg⟩))
end Go.Proofs.Ytbcgbcipigcbhaa
