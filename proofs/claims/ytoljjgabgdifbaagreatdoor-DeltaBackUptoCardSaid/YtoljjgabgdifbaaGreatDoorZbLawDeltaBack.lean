/- Layer 35's statement DeltaBack, the tied card: of a bulk that is bound it answers true, whatever the images are; what came in reads as before. The five package-level variables of Go's library that the translation lists are tied to the program's text. No condition but the bound on the bulk. -/
import Derived.Test.YtoljjgabgdifbaaGreatDoorZbB7toB9
import Derived.Test.YtoljjgabgdifbaaGreatDoorCards
import Derived.Test.YtoljjgabgdifbaaGreatDoorTie
import Derived.Stop.LaidErr
import Derived.Lib.LaidTab
import Derived.Deep.DeepHandedRow
import Derived.SevenTiedAt
namespace Go.Proofs.YtoljjgabgdifbaaGreatDoor.deltaBack
open Go.ChangeShapes Go.WideShapes Go.ChangeAt Go.RowKit Go.Joins
open Go.RowKit Go.Proofs.YtoljjgabgdifbaaGreatDoorW.PrintWords Go.Proofs.YtoljjgabgdifbaaGreatDoorW.PrintLast Go.Proofs.YtoljjgabgdifbaaGreatDoor.H
set_option linter.unusedVariables false
theorem own : ownKnob Tryz.prog.godebug = none := by kernel_rfl
theorem g0 : Tryz.prog.globalNamed "internal/strconv.uint64pow10" = some 0 := by kernel_rfl
theorem g0t : (Tryz.prog.globals[0]?).map (·.type) = some 138 := by kernel_rfl
theorem g1 : Tryz.prog.globalNamed "strconv.ErrSyntax" = some 1 := by kernel_rfl
theorem g1t : (Tryz.prog.globals[1]?).map (·.type) = some 73 := by kernel_rfl
theorem g2 : Tryz.prog.globalNamed "strconv.ErrRange" = some 2 := by kernel_rfl
theorem g2t : (Tryz.prog.globals[2]?).map (·.type) = some 73 := by kernel_rfl
theorem c138 : Tryz.prog.cellsOf 138 = 20 := by kernel_rfl
theorem c97 : Tryz.prog.cellsOf 97 = 1 := by kernel_rfl
theorem c152 : Tryz.prog.cellsOf 152 = 1 := by kernel_rfl
theorem c9 : Tryz.prog.cellsOf 9 = 1 := by kernel_rfl
theorem star : "*" ++ "errors.errorString" = "*errors.errorString" := by decide
theorem row150 (u : TypeId) (h : Tryz.prog.typeName? 3 u = some "*errors.errorString") : u = 150 :=
  typeName_ptr_named (nm := "errors.errorString") (by rw [star]; kernel_rfl) (by kernel_rfl) (by decide) u (by rw [star]; exact h)
theorem tabD : (Rows.laid_internal_strconv_uint64pow10 : DataW Unit) = Lib.tabData .u64 Lib.pow10Tab := by kernel_rfl
/-- What the row's list gives. -/
theorem vars {W : World} (h : laidMetH Tryz.prog Rows.deltaBackUptoRow.laid W) : Vars W := by
  have h0 : laidMet Tryz.prog [("math/bits.deBruijn32tab", Rows.laid_math_bits_deBruijn32tab), ("math/bits.deBruijn64tab", Rows.laid_math_bits_deBruijn64tab), ("internal/strconv.uint64pow10", Rows.laid_internal_strconv_uint64pow10), ("strconv.ErrRange", Rows.laid_strconv_ErrRange), ("strconv.ErrSyntax", Rows.laid_strconv_ErrSyntax)] W := h
  have h1 := laidMet.tail (laidMet.tail h0)
  have h2 := laidMet.tail h1
  have h3 := laidMet.tail h2
  rw [tabD] at h1
  obtain ⟨a0, s0, hv0, -, -, -⟩ := laid_sentinel h2 g2 g2t Tryz.underlying73 row150 Tryz.underlying150 Tryz.underlying152 rfl rfl Tryz.underlying9 c152 c9
  obtain ⟨a1, s1, hv1, -, -, -⟩ := laid_sentinel h3 g1 g1t Tryz.underlying73 row150 Tryz.underlying150 Tryz.underlying152 rfl rfl Tryz.underlying9 c152 c9
  exact ⟨Lib.tabIs_of_head g0 g0t Tryz.underlying138 Tryz.underlying97 c97 c138 h1, ⟨_, _, hv1⟩, ⟨_, _, hv0⟩⟩
/-! ### One start that fits -/
abbrev synS : ByteArray := { data := #[105, 110, 118, 97, 108, 105, 100, 32, 115, 121, 110, 116, 97, 120] }
abbrev rngS : ByteArray := { data := #[118, 97, 108, 117, 101, 32, 111, 117, 116, 32, 111, 102, 32, 114, 97, 110, 103, 101] }
noncomputable def low : Nat := (World.holding Tryz.prog default ⟨#[], #[], []⟩).heap.size
def nsOf (k : IntKind) : List (DataW Unit) → Array Value
  | l => (l.map fun d => match d with | .lit (.int _ z) => Value.int k z | _ => Value.int k 0).toArray
def partsOf : DataW Unit → List (DataW Unit)
  | .agg l => l
  | _ => []
/-- The settled world with two blocks more; the tables and the two sentinels as their initialisers lay them. -/
noncomputable def laidWorld (os : Os) : World :=
  let w0 := World.holding Tryz.prog os ⟨#[.cells #[.string synS] 152, .cells #[.string rngS] 152], #[], []⟩
  { w0 with heap := ((((w0.heap.modify 0 fun
      | .cells _ t frozen => .cells (nsOf .u64 (partsOf Rows.laid_internal_strconv_uint64pow10)) t frozen
      | o => o).modify 1 fun
      | .cells _ t frozen => .cells #[.iface 150 (.pointer (some ⟨low, 0, none⟩))] t frozen
      | o => o).modify 2 fun
      | .cells _ t frozen => .cells #[.iface 150 (.pointer (some ⟨low + 1, 0, none⟩))] t frozen
      | o => o).modify 4 fun
      | .cells _ t frozen => .cells (nsOf .u8 (partsOf Rows.laid_math_bits_deBruijn32tab)) t frozen
      | o => o).modify 5 fun
      | .cells _ t frozen => .cells (nsOf .u8 (partsOf Rows.laid_math_bits_deBruijn64tab)) t frozen
      | o => o }
noncomputable abbrev wit : Array Value := #[.agg #[.slice none 0 0, .slice none 0 0, .string ByteArray.empty], .agg #[.slice none 0 0, .slice none 0 0, .string ByteArray.empty]]
theorem laid_met (os : Os) : laidMet Tryz.prog Rows.deltaBackUptoRow.laid ((laidWorld os).forCall (fun _ _ => 0) ⟨#[], wit, []⟩).memory :=
  laidMet_of_run' 8 (by kernel_rfl) (by kernel_rfl)
theorem reads (os : Os) {H : Type} (enc : TypeId × Value → H) : ∃ places, DataW.whole enc Tryz.prog ((laidWorld os).forCall (fun _ _ => 0) ⟨#[], wit, []⟩).memory Tryz.f3.params.toList Rows.deltaBackSpec.vars false wit.toList 8 = some ([.agg [.nil, .nil, .lit (.string [])], .agg [.nil, .nil, .lit (.string [])]], [], places) :=
  ⟨[], by kernel_rfl⟩

set_option maxRecDepth 100000 in
theorem liftedUpto (os : Os) (started : os.Started) (H : Type) (enc : TypeId × Value → H) (F : Stop.Interp) :
    ReturnsInHanded {} Tryz.checked os 3 .any ((Rows.OpenSpec.upto Rows.deltaBackSpec).preRow enc Tryz.prog Tryz.f3 Rows.deltaBackUptoRow.domain false Rows.deltaBackUptoRow.laid) (((Rows.OpenSpec.upto Rows.deltaBackSpec).at F).post enc Tryz.prog Tryz.f3 false true false false) := by
  obtain ⟨places, hx⟩ := reads os enc
  refine returnsInHanded_of_row (C := Tryz.checked) (s := Rows.OpenSpec.upto Rows.deltaBackSpec) own started (by kernel_rfl) Tryz.func3
    (witness_row_at (enc := enc) (C := Tryz.checked) false (laidWorld os) wit rfl (by kernel_rfl) (by kernel_rfl) (by kernel_rfl)
      (OpenSpec.preRow_of_cond 8 hx (by kernel_rfl) (fun k hk => by cases hk; kernel_rfl) (by kernel_rfl) (laid_met os))) ?_
  intro W base args ds gs before hval0 hW _ hcond _ hL _ _
  have hk : Rows.uptoSmall H (ds ++ gs) = true := hcond _ rfl
  have hval : ∀ (j : Nat) t v, Tryz.f3.params[j]? = some t → args[j]? = some v → Value.okWide Tryz.prog W .any base t v := hval0
  have hW' := hW
  obtain ⟨p, q, hA0, hV, rfl, hfz, hnd⟩ := hW
  have hA : DataW.TrodAll enc Tryz.prog W 0 (fun _ => true) true Tryz.f3.params.toList args.toList ds p := hA0
  rw [Tryz.params3] at hA hval
  obtain ⟨v0, vs0, d0, ds0, p0, q0, hargs, rfl, rfl, h0, r0⟩ := trodAll_cons hA
  obtain ⟨v1, vs1, d1, ds1, p1, q1, rfl, rfl, rfl, h1, r1⟩ := trodAll_cons r0
  obtain ⟨rfl, rfl, rfl⟩ := trodAll_nil r1
  obtain rfl : args = #[v0, v1] := by cases args; simp_all
  obtain ⟨rfl, rfl⟩ := trodVars_none hV
  have k0 := h0
  have lt0 := trod_below h0
  obtain ⟨A00, c00, A01, c01, x0, rfl, C00, m00, C01, m01, b0⟩ := open_image (hval 0 24 v0 rfl rfl) h0
  have k1 := h1
  have lt1 := trod_below h1
  obtain ⟨A10, c10, A11, c11, x1, rfl, C10, m10, C11, m11, b1⟩ := open_image (hval 1 24 v1 rfl rfl) h1
  clear hA0 hval0
  have hb : Rows.uptoBulkAll ([d0, d1] ++ []) ≤ 1048576 := of_decide_eq_true hk
  simp only [List.append_nil, Rows.uptoBulkAll] at hb
  have e0 := imageL_le x0.f0 x0.f1 x0.f2
  have n00 := tot_len x0.f0
  have n01 := tot_len x0.f1
  have e1 := imageL_le x1.f0 x1.f1 x1.f2
  have n10 := tot_len x1.f0
  have n11 := tot_len x1.f1
  refine (back_calls A00 c00 A01 c01 x0 A10 c10 A11 c11 x1 W C00 m00 C01 m01 C10 m10 C11 m11 (by omega) (by omega) ⟨by omega, by omega⟩ ⟨by omega, by omega⟩ (by have := wtI_tot x0; omega) (by have := wtI_tot x1; omega) (vars hL)).mono fun e W' ⟨he, bel⟩ => ?_
  subst he
  exact ⟨_, rfl, _, _, _, [], _, [], hW', trodAll_mk1 (shut_bool Tryz.underlying4 _), (trodAll_cons_mk (Below.trod laidOut (by kernel_rfl) (of_decide_eq_true (by kernel_rfl)) k0 bel lt0) (trodAll_cons_mk (Below.trod laidOut (by kernel_rfl) (of_decide_eq_true (by kernel_rfl)) k1 bel lt1) trodAll_mk0)), rfl, bel.frame _, fun h => by cases h⟩
theorem saidUpto : Rows.DeltaBackUptoSaid :=
  OpenClaim.holds_of_cond 3 Tryz.f3 rfl rfl rfl rfl rfl rfl rfl ⟨rfl, rfl, rfl, rfl, rfl⟩ rfl rfl rfl rfl rfl (by kernel_rfl) Tryz.func3 (by kernel_rfl)
    (of_decide_eq_true (by kernel_rfl)) (by unfold Func.isWrapper; first | (rw [if_pos (by decide +kernel)]; kernel_rfl) | (rw [if_neg (by decide +kernel)]; exact ⟨rfl, rfl⟩))
    (fun os started H enc _ F => by rw [OpenClaim.pre_eq_preRow]; exact liftedUpto os started H enc F)
theorem plain (f : FuncId) (fn : Func) (hf : Tryz.pinned.checked.prog.funcNamed "hibernacle/hibernaclelaw35.DeltaBack" = some f) (hfn : Tryz.pinned.checked.prog.funcs[f]? = some fn) :
    true = Tryz.pinned.checked.prog.looks [] ∧ ∀ (j : Nat) t, fn.params[j]? = some t → Tryz.pinned.checked.prog.wantsStandIn t = false := by
  obtain rfl : f = 3 := Option.some.inj ((show Tryz.prog.funcNamed "hibernacle/hibernaclelaw35.DeltaBack" = some 3 by kernel_rfl).symm.trans hf) |>.symm
  obtain rfl : fn = Tryz.f3 := (Option.some.inj (Tryz.func3.symm.trans hfn)).symm
  refine ⟨by kernel_rfl, fun j t ht => ?_⟩
  rw [Tryz.params3] at ht
  have hm := Array.mem_of_getElem? ht
  obtain rfl : t = 24 := by simpa using hm
  exact (show Tryz.prog.wantsStandIn 24 = false by kernel_rfl)
/-- The second form's card. -/
theorem cardUpto : Rows.DeltaBackUptoCardSaid :=
  Claim7.holds_tied_plain_at .later [] _ _ _ _ saidUpto (fun _ h => by cases h) (by kernel_rfl) (fun _ h => by cases h) deltaBackUpto_row_tie rfl ⟨rfl, rfl⟩ (by kernel_rfl) rfl plain (by kernel_rfl)
end Go.Proofs.YtoljjgabgdifbaaGreatDoor.deltaBack
namespace Go.Proofs.YtoljjgabgdifbaaGreatDoor
/-- The card, under a short name, for the claim. -/
theorem deltaBack_holds : Rows.DeltaBackUptoCardSaid := deltaBack.cardUpto
end Go.Proofs.YtoljjgabgdifbaaGreatDoor

