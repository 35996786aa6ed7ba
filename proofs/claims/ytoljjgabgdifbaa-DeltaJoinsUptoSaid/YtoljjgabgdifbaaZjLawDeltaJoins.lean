/- Layer 35's statement DeltaJoins: of a bulk that is bound it answers true, whatever the images are; what came in reads as before. No condition but the bound on the bulk. -/
import Derived.Test.YtoljjgabgdifbaaZjJ7
import Derived.Test.YtoljjgabgdifbaaZjG6toT6
namespace Go.Proofs.Ytoljjgabgdifbaa.deltaJoins
open Go.ChangeShapes Go.WideShapes Go.ChangeAt Go.RowKit Go.Joins
open Go.RowKit Go.Proofs.YtoljjgabgdifbaaW.PrintWords Go.Proofs.YtoljjgabgdifbaaW.PrintLast Go.Proofs.Ytoljjgabgdifbaa.H
set_option linter.unusedVariables false
theorem own : ownKnob Try.prog.godebug = none := by kernel_rfl
set_option maxRecDepth 100000 in
theorem lifted (os : Os) (started : os.Started) (H : Type) (enc : TypeId × Value → H) (F : Stop.Interp) :
    ReturnsInHanded {} Try.checked os 7 .any ((Rows.OpenSpec.upto Rows.deltaJoinsSpec).pre6 enc Try.prog Try.f7 Rows.deltaJoinsUptoRow.domain false) (((Rows.OpenSpec.upto Rows.deltaJoinsSpec).at F).post enc Try.prog Try.f7 false true false false) := by
  refine returnsInHanded_of_cond (C := Try.checked) (s := Rows.OpenSpec.upto Rows.deltaJoinsSpec) (k := Rows.uptoSmall) rfl own started (by kernel_rfl) Try.func7
    (OpenSpec.witness (enc := enc) (C := Try.checked) (s := Rows.OpenSpec.upto Rows.deltaJoinsSpec) (k := Rows.uptoSmall) rfl false ⟨#[], #[.agg #[.slice none 0 0, .slice none 0 0, .string ByteArray.empty], .agg #[.slice none 0 0, .slice none 0 0, .string ByteArray.empty], .agg #[.slice none 0 0, .slice none 0 0, .string ByteArray.empty]], []⟩ 8 (by kernel_rfl) (by kernel_rfl) (by kernel_rfl)
      (x := ([.agg [.nil, .nil, .lit (.string [])], .agg [.nil, .nil, .lit (.string [])], .agg [.nil, .nil, .lit (.string [])]], [], [])) (by kernel_rfl) rfl (by kernel_rfl)) ?_
  intro W base args ds gs before hval0 hW _ hk _
  have hval : ∀ (j : Nat) t v, Try.f7.params[j]? = some t → args[j]? = some v → Value.okWide Try.prog W .any base t v := hval0
  have hW' := hW
  obtain ⟨p, q, hA0, hV, rfl, hfz, hnd⟩ := hW
  have hA : DataW.TrodAll enc Try.prog W 0 (fun _ => true) true Try.f7.params.toList args.toList ds p := hA0
  rw [Try.params7] at hA hval
  obtain ⟨v0, vs0, d0, ds0, p0, q0, hargs, rfl, rfl, h0, r0⟩ := trodAll_cons hA
  obtain ⟨v1, vs1, d1, ds1, p1, q1, rfl, rfl, rfl, h1, r1⟩ := trodAll_cons r0
  obtain ⟨v2, vs2, d2, ds2, p2, q2, rfl, rfl, rfl, h2, r2⟩ := trodAll_cons r1
  obtain ⟨rfl, rfl, rfl⟩ := trodAll_nil r2
  obtain rfl : args = #[v0, v1, v2] := by cases args; simp_all
  obtain ⟨rfl, rfl⟩ := trodVars_none hV
  have k0 := h0
  have lt0 := trod_below h0
  obtain ⟨A00, c00, A01, c01, x0, rfl, C00, m00, C01, m01, b0⟩ := open_image (hval 0 24 v0 rfl rfl) h0
  have k1 := h1
  have lt1 := trod_below h1
  obtain ⟨A10, c10, A11, c11, x1, rfl, C10, m10, C11, m11, b1⟩ := open_image (hval 1 24 v1 rfl rfl) h1
  have k2 := h2
  have lt2 := trod_below h2
  obtain ⟨A20, c20, A21, c21, x2, rfl, C20, m20, C21, m21, b2⟩ := open_image (hval 2 24 v2 rfl rfl) h2
  clear hA0 hval0
  have hb : Rows.uptoBulkAll ([d0, d1, d2] ++ []) ≤ 1048576 := of_decide_eq_true hk
  simp only [List.append_nil, Rows.uptoBulkAll] at hb
  have e0 := imageL_le x0.f0 x0.f1 x0.f2
  have n00 := tot_len x0.f0
  have n01 := tot_len x0.f1
  have e1 := imageL_le x1.f0 x1.f1 x1.f2
  have n10 := tot_len x1.f0
  have n11 := tot_len x1.f1
  have e2 := imageL_le x2.f0 x2.f1 x2.f2
  have n20 := tot_len x2.f0
  have n21 := tot_len x2.f1
  refine (joins_calls A00 c00 A01 c01 x0 A10 c10 A11 c11 x1 A20 c20 A21 c21 x2 W C00 m00 C01 m01 C10 m10 C11 m11 C20 m20 C21 m21 (by omega) (by omega) (by omega) ⟨by omega, by omega⟩ ⟨by omega, by omega⟩ ⟨by omega, by omega⟩ (by have := wtI_tot x0; omega) (by have := wtI_tot x1; omega) (by have := wtI_tot x2; omega)).mono fun e W' ⟨he, bel⟩ => ?_
  subst he
  exact ⟨_, rfl, _, _, _, [], _, [], hW', trodAll_mk1 (shut_bool Try.underlying4 _), (trodAll_cons_mk (Below.trod laidOut (by kernel_rfl) (of_decide_eq_true (by kernel_rfl)) k0 bel lt0) (trodAll_cons_mk (Below.trod laidOut (by kernel_rfl) (of_decide_eq_true (by kernel_rfl)) k1 bel lt1) (trodAll_cons_mk (Below.trod laidOut (by kernel_rfl) (of_decide_eq_true (by kernel_rfl)) k2 bel lt2) trodAll_mk0))), rfl, bel.frame _, fun h => by cases h⟩
theorem over : Rows.deltaJoinsUptoRow.holds Try.pinned (Rows.OpenSpec.upto Rows.deltaJoinsSpec) :=
  OpenClaim.holds_of_cond 7 Try.f7 rfl rfl rfl rfl rfl rfl rfl ⟨rfl, rfl, rfl, rfl, rfl⟩ rfl rfl rfl rfl rfl (by kernel_rfl) Try.func7 (by kernel_rfl)
    (of_decide_eq_true (by kernel_rfl)) (by unfold Func.isWrapper; first | (rw [if_pos (by decide +kernel)]; kernel_rfl) | (rw [if_neg (by decide +kernel)]; exact ⟨rfl, rfl⟩))
    (fun os started H enc _ F => lifted os started H enc F)
theorem proved : Rows.DeltaJoinsUptoSaid := over
end Go.Proofs.Ytoljjgabgdifbaa.deltaJoins
namespace Go.Proofs.Ytoljjgabgdifbaa
/-- The row, under a short name, for the claim. -/
theorem deltaJoins_holds : Rows.DeltaJoinsUptoSaid := deltaJoins.proved
end Go.Proofs.Ytoljjgabgdifbaa

