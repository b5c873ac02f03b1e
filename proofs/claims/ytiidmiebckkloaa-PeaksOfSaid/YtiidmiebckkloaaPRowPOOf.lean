/- hachurelaw46.PeaksOf returns true at every input, and each argument reads afterwards as it read before; no condition. -/
import Derived.Test.YtiidmiebckkloaaPQ
namespace Go.Proofs.Ytiidmiebckkloaa.peaksOf
open Go.ChangeShapes Go.WideShapes Go.ChangeAt Go.RowKit Go.Joins
set_option linter.unusedVariables false
set_option maxRecDepth 100000

theorem own : ownKnob Try.prog.godebug = none := by kernel_rfl
theorem plain : ∀ t ∈ Try.f5.params.toList, Plain Try.prog t := plain_all (by kernel_rfl)
theorem contract (H : Type) (enc : TypeId × Value → H) (W : World) (base : Nat) (args : Array Value) (ds gs : List (DataW H)) (before : List MemPlace)
    (hval : ∀ (j : Nat) t v, Try.f5.params[j]? = some t → args[j]? = some v → Value.okWide Try.prog W .any base t v)
    (hW : DataW.Whole enc Try.prog Try.f5.params.toList Rows.peaksOfSpec.vars false W args.toList ds gs before) :
    Calls Try.prog 5 args W fun e W' => ∃ v, e = .returned v ∧ Rows.peaksOfSpec.post enc Try.prog Try.f5 false true false false W args v W' := by
  have hW' := hW
  obtain ⟨p, q, hA0, hV, rfl, hfz, hnd⟩ := hW
  have hA : DataW.TrodAll enc Try.prog W 0 (fun _ => true) true Try.f5.params.toList args.toList ds p := hA0
  rw [Try.params5] at hA hval
  obtain ⟨v0, vs0, d0, ds0, p0, q0, hargs0, rfl, rfl, h0, r0⟩ := trodAll_cons hA
  obtain ⟨v1, vs1, d1, ds1, p1, q1, hargs1, rfl, rfl, h1, r1⟩ := trodAll_cons r0
  obtain ⟨v2, vs2, d2, ds2, p2, q2, hargs2, rfl, rfl, h2, r2⟩ := trodAll_cons r1
  obtain ⟨v3, vs3, d3, ds3, p3, q3, hargs3, rfl, rfl, h3, r3⟩ := trodAll_cons r2
  obtain ⟨rfl, rfl, rfl⟩ := trodAll_nil r3
  obtain rfl : args = #[v0, v1, v2, v3] := by rw [← Array.toList_inj, hargs0, hargs1, hargs2, hargs3]
  obtain ⟨rfl, rfl⟩ := trodVars_none hV
  obtain ⟨w, rfl, w_lo, w_hi⟩ := args.num_of Try.underlying2 (hval 0 _ v0 rfl rfl) h0
  obtain ⟨h, rfl, h_lo, h_hi⟩ := args.num_of Try.underlying2 (hval 1 _ v1 rfl rfl) h1
  obtain ⟨AV, cV, V, rfl, lV, bV, rV⟩ := args.list_of (hval 2 _ v2 rfl rfl) h2
  obtain ⟨rise, rfl, rise_lo, rise_hi⟩ := args.num_of Try.underlying2 (hval 3 _ v3 rfl rfl) h3
  refine (peaksOf_E (W := W) (V := V) w h cV rise lV rV).2.mono ?_
  rintro e W' ⟨v, rfl, rfl, hg⟩
  exact ⟨_, rfl, post_of_gr plain hW' rfl hg rfl rfl (fun _ _ _ => (trodAll_cons_mk (shut_bool Try.underlying4 _) trodAll_mk0)) (ok_one (by kernel_rfl) rfl (okWide_bool_mk Try.underlying4 _))⟩

theorem lifted (os : Os) (started : os.Started) (H : Type) (enc : TypeId × Value → H) :
    ReturnsInHanded {} Try.checked os 5 .any (Rows.peaksOfSpec.pre6 enc Try.prog Try.f5 Rows.peaksOfRow.domain false) (Rows.peaksOfSpec.post enc Try.prog Try.f5 false true false false) := by
  refine returnsInHanded_of_change (C := Try.checked) own started (by kernel_rfl) Try.func5
    (ChangeSpec.witness6 (enc := enc) (C := Try.checked) false ⟨#[], #[.int .i64 0, .int .i64 0, .slice none 0 0, .int .i64 0], []⟩ 8 (by kernel_rfl) (by kernel_rfl) (by kernel_rfl) (by kernel_rfl)) ?_
  intro W base args ds gs before hval hW hcnd _
  exact contract H enc W base args ds gs before hval hW

theorem over : Rows.peaksOfRow.holds Try.pinned (OpenSpec.ofChange Rows.peaksOfSpec) :=
  OpenClaim.holds_of_wide 5 Try.f5 rfl rfl rfl rfl rfl rfl rfl ⟨rfl, rfl, rfl, rfl, rfl⟩ rfl rfl rfl rfl rfl (by kernel_rfl) Try.func5 (by kernel_rfl)
    (of_decide_eq_true (by kernel_rfl)) (by unfold Func.isWrapper; first | (rw [if_pos (by decide +kernel)]; kernel_rfl) | (rw [if_neg (by decide +kernel)]; exact ⟨rfl, rfl⟩))
    (fun os started H enc _ => lifted os started H enc)

theorem proved : Rows.PeaksOfSaid := over
end Go.Proofs.Ytiidmiebckkloaa.peaksOf
