/- Layer 2 of the program: the number of four bytes, the numbers at the beginning. -/
import Derived.Test.YtoljjgabgdifbaaH3
import Derived.Test.YtoljjgabgdifbaaShelf
import Derived.IntWalk
namespace Go.Proofs.Ytoljjgabgdifbaa.H
open Go.RowKit Go.Proofs.YtoljjgabgdifbaaW.PrintWords Go.Proofs.YtoljjgabgdifbaaW.PrintLast
set_option linter.unusedVariables false
set_option linter.unusedSimpArgs false

/-- The number of the first four bytes of a text. -/
def wordL (s : ByteArray) : Int := Go.bits .or .u32 (Go.bits .or .u32 (Go.bits .or .u32 ((bt s 0) % 4294967296) ((((bt s 1) % 4294967296) * 256) % 4294967296)) ((((bt s 2) % 4294967296) * 65536) % 4294967296)) ((((bt s 3) % 4294967296) * 16777216) % 4294967296)
set_option maxHeartbeats 1000000 in
theorem word_calls (s : ByteArray) (w : World) (h : 4 ≤ s.size) : Calls Try.prog 77 #[.string s] w fun e w' => e = .returned (.int .u32 (wordL s)) ∧ Drawn0 w w' := by
  have q3 := eq_true (show 0 < s.size by omega)
  have hx3 : ∀ h : 0 < s.size, ((s[0]'h).toNat : Int) = bt s 0 := bt_at s 0
  have qi3 := eq_true (show 0 < (s.size : Int) by omega)
  have q5 := eq_true (show 1 < s.size by omega)
  have hx5 : ∀ h : 1 < s.size, ((s[1]'h).toNat : Int) = bt s 1 := bt_at s 1
  have qi5 := eq_true (show 1 < (s.size : Int) by omega)
  have q7 := eq_true (show 2 < s.size by omega)
  have hx7 : ∀ h : 2 < s.size, ((s[2]'h).toNat : Int) = bt s 2 := bt_at s 2
  have qi7 := eq_true (show 2 < (s.size : Int) by omega)
  have q9 := eq_true (show 3 < s.size by omega)
  have hx9 : ∀ h : 3 < s.size, ((s[3]'h).toNat : Int) = bt s 3 := bt_at s 3
  have qi9 := eq_true (show 3 < (s.size : Int) by omega)
  clear h
  go_enter Try.func77, Try.ntmps77
  go_wp2
  repeat (go_quiet (fail); try go_wp2)
  go_ret
  exact ⟨by first | rfl | (simp; done), by repeat (first | exact Drawn0.refl _ | apply Drawn0.step)⟩

/-- The numbers at the beginning. -/
def eightL : List Int := [1779033703, 3144134277, 1013904242, 2773480762, 1359893119, 2600822924, 528734635, 1541459225]
set_option maxRecDepth 100000 in
set_option maxHeartbeats 1000000 in
theorem eight_calls (w : World) : Calls Try.prog 47 #[] w fun e w' => e = .returned (.agg (nums .u32 eightL).toArray) ∧ Below w.heap.size w w' := by
  go_enter Try.func47, Try.ntmps47
  go_wp2
  exact bodyPost_ret (results_cell_row (p := 0) (ty := 76) rfl _ _ w.heap.size 76 _ (0, 0) _ rfl (heap_alloc_new _ _) Try.underlying76 rfl (by kernel_rfl)) rfl ⟨rfl, (Below.refl _ _).alloc (Nat.le_refl _) _⟩

theorem eight_calls' (w : World) : Calls Try.prog 47 #[] w fun e w' => e = .returned (.agg #[.int .u32 1779033703, .int .u32 3144134277, .int .u32 1013904242, .int .u32 2773480762, .int .u32 1359893119, .int .u32 2600822924, .int .u32 528734635, .int .u32 1541459225]) ∧ Below w.heap.size w w' := eight_calls w

/-- The rounds' rows, a sign for each number. -/
def rowsS : ByteArray := ⟨#[48, 49, 50, 51, 52, 53, 54, 55, 56, 57, 97, 98, 99, 100, 101, 102, 101, 97, 52, 56, 57, 102, 100, 54, 49, 99, 48, 50, 98, 55, 53, 51, 98, 56, 99, 48, 53, 50, 102, 100, 97, 101, 51, 54, 55, 49, 57, 52, 55, 57, 51, 49, 100, 99, 98, 101, 50, 54, 53, 97, 52, 48, 102, 56, 57, 48, 53, 55, 50, 52, 97, 102, 101, 49, 98, 99, 54, 56, 51, 100, 50, 99, 54, 97, 48, 98, 56, 51, 52, 100, 55, 53, 102, 101, 49, 57, 99, 53, 49, 102, 101, 100, 52, 97, 48, 55, 54, 51, 57, 50, 56, 98, 100, 98, 55, 101, 99, 49, 51, 57, 53, 48, 102, 52, 56, 54, 50, 97, 54, 102, 101, 57, 98, 51, 48, 56, 99, 50, 100, 55, 49, 52, 97, 53, 97, 50, 56, 52, 55, 54, 49, 53, 102, 98, 57, 101, 51, 99, 100, 48]⟩
def digS : ByteArray := ⟨#[48, 49, 50, 51, 52, 53, 54, 55, 56, 57, 97, 98, 99, 100, 101, 102]⟩
def rowsL : List Nat := [0, 1, 2, 3, 4, 5, 6, 7, 8, 9, 10, 11, 12, 13, 14, 15, 14, 10, 4, 8, 9, 15, 13, 6, 1, 12, 0, 2, 11, 7, 5, 3, 11, 8, 12, 0, 5, 2, 15, 13, 10, 14, 3, 6, 7, 1, 9, 4, 7, 9, 3, 1, 13, 12, 11, 14, 2, 6, 5, 10, 4, 0, 15, 8, 9, 0, 5, 7, 2, 4, 10, 15, 14, 1, 11, 12, 6, 8, 3, 13, 2, 12, 6, 10, 0, 11, 8, 3, 4, 13, 7, 5, 15, 14, 1, 9, 12, 5, 1, 15, 14, 13, 4, 10, 0, 7, 6, 3, 9, 2, 8, 11, 13, 11, 7, 14, 12, 1, 3, 9, 5, 0, 15, 4, 8, 6, 2, 10, 6, 15, 14, 9, 11, 3, 0, 8, 12, 2, 13, 7, 1, 4, 10, 5, 10, 2, 8, 4, 7, 6, 1, 5, 15, 11, 9, 14, 3, 12, 13, 0]
theorem rows_tell (j : Nat) (h : j < 160) : Lib.indexByte digS.data.toList (bt rowsS (j : Int)).toNat.toUInt8 = (rowsL.getD j 0 : Nat) := by
  have h' : ∀ j : Fin 160, Lib.indexByte digS.data.toList (bt rowsS ((j.val : Nat) : Int)).toNat.toUInt8 = (rowsL.getD j.val 0 : Nat) := by decide +kernel
  exact h' ⟨j, h⟩
set_option maxRecDepth 100000 in
set_option maxHeartbeats 1000000 in
theorem row_calls (r i : Int) (w : World) (h0 : 0 ≤ r) (h1 : r ≤ 9) (h2 : 0 ≤ i) (h3 : i ≤ 15) :
    Calls Try.prog 79 #[.int .i64 r, .int .i64 i] w fun e w' => e = .returned (.int .i64 (rowsL.getD (16 * r + i).toNat 0 : Nat)) ∧ w' = w := by
  have ht := rows_tell (16 * r + i).toNat (by omega)
  rw [show (((16 * r + i).toNat : Nat) : Int) = 16 * r + i by omega] at ht
  have p := eq_true (show 0 ≤ 16 * r + i by omega)
  have q := eq_true (show 16 * r + i < 160 by omega)
  have q' := eq_true (show (16 * r + i).toNat < 160 by omega)
  have e1 : IntKind.i64.wrap (16 * r) = 16 * r := IntWalk.i64_in _ (by omega)
  have e2 : IntKind.i64.wrap (16 * r + i) = 16 * r + i := IntWalk.i64_in _ (by omega)
  have hx : ∀ h : (16 * r + i).toNat < rowsS.size, ((rowsS[(16 * r + i).toNat]'h).toNat : Int) = bt rowsS (16 * r + i) := bt_at rowsS (16 * r + i)
  have HT := Aside0.mk ht
  clear ht
  unfold rowsS at hx
  go_enter Try.func79, Try.ntmps79
  go_wp2_with fail
  refine (Try.strings_IndexByte _ _ _).mono ?_
  rintro e w' ⟨rfl, rfl⟩
  go_wp2
  go_ret
  exact ⟨ret_int HT.out, rfl⟩
end Go.Proofs.Ytoljjgabgdifbaa.H
