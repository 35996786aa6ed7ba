/- Layer 35: an image that came in, opened; what the bulk of the input bounds. -/
import Derived.Test.YtoljjgabgdifbaaRows
import Derived.Test.YtoljjgabgdifbaaG
import Derived.WalkKit
import Derived.ProofKit
import Derived.OpenShut
import Derived.ShutString
import Derived.ChangeOld
import Derived.Below
import Derived.SizedLaws
import Derived.JoinedCond
import Derived.SliceStrings
import Derived.Lib.SmallJoins
namespace Go.Proofs.Ytoljjgabgdifbaa.H
open Go.ChangeShapes Go.WideShapes Go.ChangeAt Go.RowKit Go.Joins
open Go.RowKit Go.Proofs.YtoljjgabgdifbaaW.PrintWords Go.Proofs.YtoljjgabgdifbaaW.PrintLast
set_option linter.unusedVariables false
set_option linter.unusedSimpArgs false

theorem laidOut : laidOutB Try.prog = true := by kernel_rfl
theorem cells24 : Try.prog.cellsOf 24 = 3 := by kernel_rfl
theorem cells9 : Try.prog.cellsOf 9 = 1 := by kernel_rfl
/-- What texts weigh: each letter one, each text one. -/
def tot : List ByteArray → Nat
  | [] => 0
  | s :: l => s.size + 1 + tot l
theorem tot_len : ∀ l : List ByteArray, l.length ≤ tot l
  | [] => Nat.le_refl _
  | s :: l => by
    have := tot_len l
    simp only [tot, List.length_cons]
    omega
theorem bulk_append {H : Type} (l r : List (DataW H)) : Rows.uptoBulkAll (l ++ r) = Rows.uptoBulkAll l + Rows.uptoBulkAll r := by
  induction l with
  | nil => simp [Rows.uptoBulkAll]
  | cons x l ih => simp only [List.cons_append, Rows.uptoBulkAll, ih]; omega
theorem bulk_strs {H : Type} : ∀ l : List ByteArray, Rows.uptoBulkAll (strs (H := H) l) = tot l
  | [] => by simp [strs, Rows.uptoBulkAll, tot]
  | s :: l => by
    have := bulk_strs (H := H) l
    simp only [strs, List.map_cons, Rows.uptoBulkAll, Rows.uptoBulk, tot, Array.length_toList] at this ⊢
    rw [this]
    have : s.data.size = s.size := rfl
    omega
section
variable {H : Type} {enc : TypeId × Value → H} {W : World}
theorem open_texts {fuel : Nat} {v : Value} {y : DataW H × List MemPlace} (h : DataW.trod enc Try.prog W 0 (fun _ => true) true fuel 22 [v] = some y) :
    ∃ (A : Option Addr) (c : Nat) (l : List ByteArray), v = .slice A l.length c ∧ Kd.C Kd.string W A l.length l ∧ l.length ≤ c ∧ tot l ≤ Rows.uptoBulk y.1 := by
  rcases open_strings Try.underlying22 Try.underlying9 cells9 h with ⟨e, hx⟩ | ⟨a, len, cap, ss, e, _, hl, hm, hz, hx, hcell, hsz⟩
  · simp only [List.cons.injEq, and_true] at e
    subst hx
    exact ⟨none, 0, [], e, Kd.C_nil _ _, Nat.le_refl _, by simp [tot]⟩
  · simp only [List.cons.injEq, and_true] at e
    rw [if_pos rfl] at hz
    have ht : (ss.take len).length = len := by rw [List.length_take]; omega
    have hmm : maxLen ≤ 9223372036854775807 := by decide
    refine ⟨some a, cap, ss.take len, by rw [ht]; exact e, ?_, by omega, ?_⟩
    · refine Kd.C_of_reads (d := ByteArray.empty) ⟨rfl, by omega, fun _ => ⟨a, rfl, fun j hj => ?_⟩⟩
      rw [hcell j (by omega)]
      rw [List.getD_eq_getElem?_getD, List.getD_eq_getElem?_getD, List.getElem?_take_of_lt (by omega)]
    · rw [hx]
      simp only [Rows.uptoBulk]
      rw [bulk_strs]
      omega
set_option maxRecDepth 100000 in
/-- An image that came in. -/
theorem open_image {r : Reach} {b0 : Nat} {v : Value} {d : DataW H} {p : List MemPlace} (hv : Value.okWide Try.prog W r b0 24 v) (h : DataW.Trod enc Try.prog W 0 (fun _ => true) true 24 v d p) :
    ∃ (A0 : Option Addr) (c0 : Nat) (A1 : Option Addr) (c1 : Nat) (x : S24), v = .agg #[.slice A0 x.f0.length c0, .slice A1 x.f1.length c1, .string x.f2] ∧
      Kd.C Kd.string W A0 x.f0.length x.f0 ∧ x.f0.length ≤ c0 ∧ Kd.C Kd.string W A1 x.f1.length x.f1 ∧ x.f1.length ≤ c1 ∧ tot x.f0 + tot x.f1 + x.f2.size ≤ Rows.uptoBulk d := by
  obtain ⟨v0, v1, v2, y0, y1, y2, n, rfl, rfl, rfl, h0, h1, h2⟩ := open_agg3 Try.underlying24 (by kernel_rfl) cells24 hv h
  obtain ⟨A0, c0, l0, rfl, k0, m0, b0⟩ := open_texts h0
  obtain ⟨A1, c1, l1, rfl, k1, m1, b1⟩ := open_texts h1
  obtain ⟨s, e, hs, _⟩ := DataW.trod_string Try.underlying9 h2
  simp only [List.cons.injEq, and_true] at e
  subst e
  refine ⟨A0, c0, A1, c1, ⟨l0, l1, s⟩, rfl, k0, m0, k1, m1, ?_⟩
  subst hs
  simp only [Rows.uptoBulk, Rows.uptoBulkAll, Array.length_toList]
  have : s.data.size = s.size := rfl
  omega
theorem trod_below {t : TypeId} {v : Value} {d : DataW H} {p : List MemPlace} (h : DataW.Trod enc Try.prog W 0 (fun _ => true) true t v d p) : ∀ x ∈ p, x.block < W.heap.size := by
  obtain ⟨m, hm⟩ := h
  exact DataW.trod_lt m _ _ _ hm
end
theorem lenB_le : ∀ (k n : Nat), n < k → (lenB n).length ≤ n + 1
  | k + 1, n, h => by
    rw [lenB]
    split
    · have := lenB_le k (n / 128) (by omega)
      rw [List.length_cons]
      omega
    · simp
theorem rowB_le : ∀ l : List ByteArray, (rowB l).length ≤ 2 * tot l
  | [] => Nat.le_refl _
  | s :: l => by
    have := rowB_le l
    have h1 := lenB_le (s.size + 1) s.size (by omega)
    simp only [rowB, List.length_append, Array.length_toList, tot]
    have : s.data.size = s.size := rfl
    omega
theorem imageL_le (f0 f1 : List ByteArray) (s : ByteArray) : (imageL f0 f1 s).length ≤ 4 * tot f0 + 4 * tot f1 + 2 * s.size + 16 := by
  have h := rowB_le [hibi, ⟨(rowB f0).toArray⟩, ⟨(rowB f1).toArray⟩, s]
  have h0 := rowB_le f0
  have h1 := rowB_le f1
  have ea : (ByteArray.mk (rowB f0).toArray).size = (rowB f0).length := by show (rowB f0).toArray.size = _; simp
  have eb : (ByteArray.mk (rowB f1).toArray).size = (rowB f1).length := by show (rowB f1).toArray.size = _; simp
  have e2 : hibi.size = 4 := rfl
  simp only [tot, ea, eb, e2] at h
  show (rowB [hibi, ⟨(rowB f0).toArray⟩, ⟨(rowB f1).toArray⟩, s]).length ≤ _
  omega
end Go.Proofs.Ytoljjgabgdifbaa.H
