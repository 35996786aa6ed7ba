/- Layer 2 of the program: the number of four bytes, the numbers at the beginning. Layer 2 of the program: a block is taken in. -/
import Derived.Test.YtoljjgabgdifbaaGreatDoorZbPH3toS0
import Derived.IntWalk
namespace Go.Proofs.YtoljjgabgdifbaaGreatDoor.H
open Go.RowKit Go.Proofs.YtoljjgabgdifbaaGreatDoorW.PrintWords Go.Proofs.YtoljjgabgdifbaaGreatDoorW.PrintLast
set_option linter.unusedVariables false
set_option linter.unusedSimpArgs false

/-- The number of the first four bytes of a text. -/
def wordL (s : ByteArray) : Int := Go.bits .or .u32 (Go.bits .or .u32 (Go.bits .or .u32 ((bt s 0) % 4294967296) ((((bt s 1) % 4294967296) * 256) % 4294967296)) ((((bt s 2) % 4294967296) * 65536) % 4294967296)) ((((bt s 3) % 4294967296) * 16777216) % 4294967296)
set_option maxHeartbeats 1000000 in
theorem word_calls (s : ByteArray) (w : World) (h : 4 ≤ s.size) : Calls Tryz.prog 61 #[.string s] w fun e w' => e = .returned (.int .u32 (wordL s)) ∧ Drawn0 w w' := by
  have q3 := eq_true (show 0 < s.size by omega)
  have hx3 : ∀ h : 0 < s.size, ((s[0]'h).toNat : Int) = bt s 0 := bt_at s 0
  have qi3 := eq_true (show 0 < (s.size : Int) by omega)
  have q5 := eq_true (show 1 < s.size by omega)
  have hx5 : ∀ h : 1 < s.size, ((s[1]'h).toNat : Int) = bt s 1 := bt_at s 1
  have qi5 := eq_true (show 1 < (s.size : Int) by omega)
  have q7 := eq_true (show 2 < s.size by omega)
  have hx7 : ∀ h : 2 < s.size, ((s[2]'h).toNat : Int) = bt s 2 := bt_at s 2
  have qi7 := eq_true (show 2 < (s.size : Int) by omega)
  have q9 := eq_true (show 3 < s.size by omega)
  have hx9 : ∀ h : 3 < s.size, ((s[3]'h).toNat : Int) = bt s 3 := bt_at s 3
  have qi9 := eq_true (show 3 < (s.size : Int) by omega)
  clear h
  go_enter Tryz.func61, Tryz.ntmps61
  go_wp2
  repeat (go_quiet (fail); try go_wp2)
  go_ret
  exact ⟨by first | rfl | (simp; done), by repeat (first | exact Drawn0.refl _ | apply Drawn0.step)⟩

/-- The numbers at the beginning. -/
def eightL : List Int := [1779033703, 3144134277, 1013904242, 2773480762, 1359893119, 2600822924, 528734635, 1541459225]
set_option maxRecDepth 100000 in
set_option maxHeartbeats 1000000 in
theorem eight_calls (w : World) : Calls Tryz.prog 44 #[] w fun e w' => e = .returned (.agg (nums .u32 eightL).toArray) ∧ Below w.heap.size w w' := by
  go_enter Tryz.func44, Tryz.ntmps44
  go_wp2
  exact bodyPost_ret (results_cell_row (p := 0) (ty := 89) rfl _ _ w.heap.size 89 _ (0, 0) _ rfl (heap_alloc_new _ _) Tryz.underlying89 rfl (by kernel_rfl)) rfl ⟨rfl, (Below.refl _ _).alloc (Nat.le_refl _) _⟩

theorem eight_calls' (w : World) : Calls Tryz.prog 44 #[] w fun e w' => e = .returned (.agg #[.int .u32 1779033703, .int .u32 3144134277, .int .u32 1013904242, .int .u32 2773480762, .int .u32 1359893119, .int .u32 2600822924, .int .u32 528734635, .int .u32 1541459225]) ∧ Below w.heap.size w w' := eight_calls w

/-- The rounds' rows, a sign for each number. -/
def rowsS : ByteArray := ⟨#[48, 49, 50, 51, 52, 53, 54, 55, 56, 57, 97, 98, 99, 100, 101, 102, 101, 97, 52, 56, 57, 102, 100, 54, 49, 99, 48, 50, 98, 55, 53, 51, 98, 56, 99, 48, 53, 50, 102, 100, 97, 101, 51, 54, 55, 49, 57, 52, 55, 57, 51, 49, 100, 99, 98, 101, 50, 54, 53, 97, 52, 48, 102, 56, 57, 48, 53, 55, 50, 52, 97, 102, 101, 49, 98, 99, 54, 56, 51, 100, 50, 99, 54, 97, 48, 98, 56, 51, 52, 100, 55, 53, 102, 101, 49, 57, 99, 53, 49, 102, 101, 100, 52, 97, 48, 55, 54, 51, 57, 50, 56, 98, 100, 98, 55, 101, 99, 49, 51, 57, 53, 48, 102, 52, 56, 54, 50, 97, 54, 102, 101, 57, 98, 51, 48, 56, 99, 50, 100, 55, 49, 52, 97, 53, 97, 50, 56, 52, 55, 54, 49, 53, 102, 98, 57, 101, 51, 99, 100, 48]⟩
def digS : ByteArray := ⟨#[48, 49, 50, 51, 52, 53, 54, 55, 56, 57, 97, 98, 99, 100, 101, 102]⟩
def rowsL : List Nat := [0, 1, 2, 3, 4, 5, 6, 7, 8, 9, 10, 11, 12, 13, 14, 15, 14, 10, 4, 8, 9, 15, 13, 6, 1, 12, 0, 2, 11, 7, 5, 3, 11, 8, 12, 0, 5, 2, 15, 13, 10, 14, 3, 6, 7, 1, 9, 4, 7, 9, 3, 1, 13, 12, 11, 14, 2, 6, 5, 10, 4, 0, 15, 8, 9, 0, 5, 7, 2, 4, 10, 15, 14, 1, 11, 12, 6, 8, 3, 13, 2, 12, 6, 10, 0, 11, 8, 3, 4, 13, 7, 5, 15, 14, 1, 9, 12, 5, 1, 15, 14, 13, 4, 10, 0, 7, 6, 3, 9, 2, 8, 11, 13, 11, 7, 14, 12, 1, 3, 9, 5, 0, 15, 4, 8, 6, 2, 10, 6, 15, 14, 9, 11, 3, 0, 8, 12, 2, 13, 7, 1, 4, 10, 5, 10, 2, 8, 4, 7, 6, 1, 5, 15, 11, 9, 14, 3, 12, 13, 0]
theorem rows_tell (j : Nat) (h : j < 160) : Lib.indexByte digS.data.toList (bt rowsS (j : Int)).toNat.toUInt8 = (rowsL.getD j 0 : Nat) := by
  have h' : ∀ j : Fin 160, Lib.indexByte digS.data.toList (bt rowsS ((j.val : Nat) : Int)).toNat.toUInt8 = (rowsL.getD j.val 0 : Nat) := by decide +kernel
  exact h' ⟨j, h⟩
set_option maxRecDepth 100000 in
set_option maxHeartbeats 1000000 in
theorem row_calls (r i : Int) (w : World) (h0 : 0 ≤ r) (h1 : r ≤ 9) (h2 : 0 ≤ i) (h3 : i ≤ 15) :
    Calls Tryz.prog 63 #[.int .i64 r, .int .i64 i] w fun e w' => e = .returned (.int .i64 (rowsL.getD (16 * r + i).toNat 0 : Nat)) ∧ w' = w := by
  have ht := rows_tell (16 * r + i).toNat (by omega)
  rw [show (((16 * r + i).toNat : Nat) : Int) = 16 * r + i by omega] at ht
  have p := eq_true (show 0 ≤ 16 * r + i by omega)
  have q := eq_true (show 16 * r + i < 160 by omega)
  have q' := eq_true (show (16 * r + i).toNat < 160 by omega)
  have e1 : IntKind.i64.wrap (16 * r) = 16 * r := IntWalk.i64_in _ (by omega)
  have e2 : IntKind.i64.wrap (16 * r + i) = 16 * r + i := IntWalk.i64_in _ (by omega)
  have hx : ∀ h : (16 * r + i).toNat < rowsS.size, ((rowsS[(16 * r + i).toNat]'h).toNat : Int) = bt rowsS (16 * r + i) := bt_at rowsS (16 * r + i)
  have HT := Aside0.mk ht
  clear ht
  unfold rowsS at hx
  go_enter Tryz.func63, Tryz.ntmps63
  go_wp2_with fail
  refine (Tryz.strings_IndexByte _ _ _).mono ?_
  rintro e w' ⟨rfl, rfl⟩
  go_wp2
  go_ret
  exact ⟨ret_int HT.out, rfl⟩
end Go.Proofs.YtoljjgabgdifbaaGreatDoor.H

namespace Go.Proofs.YtoljjgabgdifbaaGreatDoor.H
open Go.RowKit Go.Proofs.YtoljjgabgdifbaaGreatDoorW.PrintWords Go.Proofs.YtoljjgabgdifbaaGreatDoorW.PrintLast
set_option linter.unusedVariables false
set_option linter.unusedSimpArgs false

/-- The number i of a block's text. -/
def wordAt (s : ByteArray) (i : Nat) : Int := wordL (s.extract (4 * i) s.size)
/-- The first k of a block's numbers, behind them nothing. -/
def pm (s : ByteArray) (k : Nat) : List Int := (List.range 16).map fun i => if i < k then wordAt s i else 0
theorem pm_len (s : ByteArray) (k : Nat) : (pm s k).length = 16 := by simp [pm]
theorem pm_set (s : ByteArray) (k : Nat) (hk : k < 16) : (pm s k).set k (wordAt s k) = pm s (k + 1) := by
  apply List.ext_getElem (by simp [pm])
  intro i h1 h2
  simp only [pm, List.getElem_set, List.getElem_map, List.getElem_range]
  by_cases e : k = i
  · subst e
    simp
  · rw [if_neg e]
    have : (i < k) ↔ (i < k + 1) := by omega
    simp only [this]

theorem Blk.setRow_ {w : World} {g : Nat} {t : TypeId} {cs : Array Value} (h : Blk w g t cs) (cs' : Array Value) : Blk (w.setRow g cs') g t cs' := setRow_heap w g cs cs' t (0, 0) h
theorem Blk.setRow_far {w : World} {g k : Nat} {t : TypeId} {cs : Array Value} (h : Blk w g t cs) (hk : g ≠ k) (cs' : Array Value) : Blk (w.setRow k cs') g t cs := (setRow_other w k g cs' hk).trans h
/-- What stands at the beginning of the rounds. -/
structure T9 (w0 w : World) (N gv gf : Nat) (h vs ms : List Int) : Prop where
  below : Below w0.heap.size w0 w
  base : w0.heap.size = N
  b0 : Blk w N 89 (nums .u32 h).toArray
  b1 : Blk w (N + 1) 89 (nums .u32 [0, 0, 0, 0, 0, 0, 0, 0]).toArray
  bm : Blk w (N + 1 + 1) 104 (nums .u32 ms).toArray
  bv : Blk w gv 104 (nums .u32 vs).toArray
  bf : Blk w gf 89 (nums .u32 eightL).toArray
  lv : N + 2 < gv
  lf : gv < gf
theorem nums_cells {w : World} {g : Nat} {t : TypeId} {vs : List Int} (h : Blk w g t (nums .u32 vs).toArray) (j : Nat) (v : Value) (hv : (nums .u32 vs)[j]? = some v) : w.cell? ((⟨g, 0, none⟩ : Addr).add j) = some v := by
  rw [add_plain, h.cell]
  simpa using hv
theorem below_setRow' {B g : Nat} {w0 w : World} (hb : Below B w0 w) (hBg : B ≤ g) (cs : Array Value) : Below B w0 (w.setRow g cs) :=
  hb.trans ⟨rfl, rfl, rfl, by simp [World.setRow], fun k hk => setRow_other w g k cs (by omega)⟩
theorem copy_list {h vs : List Int} (o : Nat) (hv : vs.length = 16) : ((nums .u32 vs).toArray.toList.take o ++ nums .u32 h ++ (nums .u32 vs).toArray.toList.drop (o + (nums .u32 h).length)).toArray = (nums .u32 (vs.take o ++ h ++ vs.drop (o + h.length))).toArray := by
  simp [nums]
theorem T9.copy1 {w0 w : World} {N gv gf : Nat} {h vs ms : List Int} (X : T9 w0 w N gv gf h vs ms) (hh : h.length = 8) (hv : vs.length = 16 := by simp [pm_len]) :
    T9 w0 (w.drew.setRow gv ((nums .u32 vs).toArray.toList.take 0 ++ nums .u32 h ++ (nums .u32 vs).toArray.toList.drop (0 + 8)).toArray) N gv gf h (h ++ vs.drop 8) ms := by
  have l1 := X.lv
  have l2 := X.lf
  have e := copy_list (h := h) 0 hv
  rw [nums_length, hh] at e
  rw [e]
  have b := X.base
  refine ⟨below_setRow' (below_drew X.below) (by omega) _, X.base, X.b0.drew.setRow_far (by omega) _, X.b1.drew.setRow_far (by omega) _, X.bm.drew.setRow_far (by omega) _, ?_, X.bf.drew.setRow_far (by omega) _, X.lv, X.lf⟩
  simpa using X.bv.drew.setRow_ (nums .u32 (vs.take 0 ++ h ++ vs.drop (0 + 8))).toArray
theorem T9.copy2 {w0 w : World} {N gv gf : Nat} {h vs ms : List Int} (X : T9 w0 w N gv gf h vs ms) (hv : vs.length = 16) :
    T9 w0 (w.drew.setRow gv ((nums .u32 vs).toArray.toList.take 8 ++ nums .u32 eightL ++ (nums .u32 vs).toArray.toList.drop (8 + 8)).toArray) N gv gf h (vs.take 8 ++ eightL) ms := by
  have l1 := X.lv
  have l2 := X.lf
  have e := copy_list (h := eightL) 8 hv
  rw [nums_length, show eightL.length = 8 from rfl, List.drop_of_length_le (show vs.length ≤ 8 + 8 by omega), List.append_nil] at e
  rw [e]
  have b := X.base
  exact ⟨below_setRow' (below_drew X.below) (by omega) _, X.base, X.b0.drew.setRow_far (by omega) _, X.b1.drew.setRow_far (by omega) _, X.bm.drew.setRow_far (by omega) _, X.bv.drew.setRow_ _, X.bf.drew.setRow_far (by omega) _, X.lv, X.lf⟩
theorem T9.set_ {w0 w : World} {N gv gf : Nat} {h vs ms : List Int} (X : T9 w0 w N gv gf h vs ms) (i : Nat) (y : Int) : T9 w0 (w.setCell ⟨gv, i, none⟩ (.int .u32 y)) N gv gf h (vs.set i y) ms := by
  have l1 := X.lv
  have l2 := X.lf
  have b := X.base
  refine ⟨X.below.setCell (by simp; omega) _, X.base, X.b0.far (by simp; omega) _, X.b1.far (by simp; omega) _, X.bm.far (by simp; omega) _, ?_, X.bf.far (by simp; omega) _, X.lv, X.lf⟩
  have z := X.bv.set_ i (.int .u32 y)
  rw [nums_set] at z
  exact z
theorem T9.drewN {w0 w : World} {N gv gf : Nat} {h vs ms : List Int} (X : T9 w0 w N gv gf h vs ms) (n : Nat) : T9 w0 (w.drewN n) N gv gf h vs ms :=
  ⟨pw_below_drewN X.below n, X.base, X.b0.drewN n, X.b1.drewN n, X.bm.drewN n, X.bv.drewN n, X.bf.drewN n, X.lv, X.lf⟩
/-- The numbers at the beginning of the rounds. -/
def initV (h : List Int) (n : Int) (last : Bool) : List Int :=
  let v := ((h ++ eightL).set 12 (Go.bits .xor .u32 ((h ++ eightL).getD 12 0) (n % 4294967296))).set 13 (Go.bits .xor .u32 ((h ++ eightL).getD 13 0) ((n / 4294967296) % 4294967296))
  if last then v.set 14 (Go.bits .xor .u32 IntKind.u32.max (v.getD 14 0)) else v
theorem T9.mix {w0 w w' : World} {N gv gf : Nat} {h vs vs' ms : List Int} (X : T9 w0 w N gv gf h vs ms) (M : MixPost w w' gv vs') : T9 w0 w' N gv gf h vs' ms := by
  have l1 := X.lv
  have l2 := X.lf
  have b := X.base
  have f : ∀ {g : Nat} {t : TypeId} {cs : Array Value}, g ≠ gv → Blk w g t cs → Blk w' g t cs := fun hne hb => hb.grown M.far (fun e => hne (Option.some.inj e))
  exact ⟨X.below.trans ⟨M.far.os, M.far.tape, M.far.output, M.far.size, fun k hk => M.far.block k (by have := X.below.size; omega) (fun e => by have := Option.some.inj e; omega)⟩, X.base, f (by omega) X.b0, f (by omega) X.b1, f (by omega) X.bm, M.blk, f (by omega) X.bf, X.lv, X.lf⟩
theorem rowsL_lt (k : Nat) : rowsL.getD k 0 < 16 := by
  rcases Nat.lt_or_ge k 160 with h | h
  · have h' : ∀ j : Fin 160, rowsL.getD j.val 0 < 16 := by decide +kernel
    exact h' ⟨k, h⟩
  · rw [List.getD_eq_getElem?_getD, List.getElem?_eq_none (by simpa [rowsL] using h)]
    decide
/-- What a mixing takes of the block's numbers in round r at place p. -/
def mAt (ms : List Int) (r p : Nat) : Int := ms.getD (rowsL.getD (16 * r + p) 0) 0
def colStep (ms : List Int) (r : Nat) (vs : List Int) (i : Nat) : List Int := mixL vs i (4 + i) (8 + i) (12 + i) (mAt ms r (2 * i)) (mAt ms r (2 * i + 1))
def diaStep (ms : List Int) (r : Nat) (vs : List Int) (i : Nat) : List Int := mixL vs i (4 + (i + 1) % 4) (8 + (i + 2) % 4) (12 + (i + 3) % 4) (mAt ms r (8 + 2 * i)) (mAt ms r (9 + 2 * i))
def cols (ms : List Int) (r : Nat) (vs : List Int) : Nat → List Int
  | 0 => vs
  | i + 1 => colStep ms r (cols ms r vs i) i
def dias (ms : List Int) (r : Nat) (vs : List Int) : Nat → List Int
  | 0 => vs
  | i + 1 => diaStep ms r (dias ms r vs i) i
def rounds (ms : List Int) (vs : List Int) : Nat → List Int
  | 0 => vs
  | r + 1 => dias ms r (cols ms r (rounds ms vs r) 4) 4
theorem mixL_len {vs : List Int} (h : vs.length = 16) (a b c d : Nat) (x y : Int) : (mixL vs a b c d x y).length = 16 := halfL_len (halfL_len h _ _ _ _ _ _ _ _ _) _ _ _ _ _ _ _ _ _
theorem cols_len (ms : List Int) (r : Nat) {vs : List Int} (h : vs.length = 16) : ∀ i, (cols ms r vs i).length = 16
  | 0 => h
  | i + 1 => mixL_len (cols_len ms r h i) _ _ _ _ _ _
theorem dias_len (ms : List Int) (r : Nat) {vs : List Int} (h : vs.length = 16) : ∀ i, (dias ms r vs i).length = 16
  | 0 => h
  | i + 1 => mixL_len (dias_len ms r h i) _ _ _ _ _ _
theorem rounds_len (ms : List Int) {vs : List Int} (h : vs.length = 16) : ∀ r, (rounds ms vs r).length = 16
  | 0 => h
  | r + 1 => dias_len _ _ (cols_len _ _ (rounds_len ms h r) _) _
theorem initV_len {h : List Int} (hh : h.length = 8) (n : Int) (last : Bool) : (initV h n last).length = 16 := by
  unfold initV
  cases last <;> simp [hh, eightL]
/-- Where a row's sign leads: a place below 16, and the block's number there. -/
theorem row_at (r p : Nat) (hr : r < 10) (hp : p < 16) {w0 w : World} {N gv gf : Nat} {h vs ms : List Int} (X : T9 w0 w N gv gf h vs ms) (hm : ms.length = 16) :
    ∃ j : Nat, j < 16 ∧ (∀ W, Calls Tryz.prog 63 #[.int .i64 r, .int .i64 (p : Nat)] W fun e w' => e = .returned (.int .i64 (j : Nat)) ∧ w' = W) ∧ w.cell? ⟨N + 1 + 1, j, none⟩ = some (.int .u32 (mAt ms r p)) := by
  have hl := rowsL_lt (16 * r + p)
  refine ⟨rowsL.getD (16 * r + p) 0, hl, fun W => ?_, (X.bm.cell _).trans (nums_get (by omega))⟩
  have c := row_calls r p W (by omega) (by omega) (by omega) (by omega)
  rw [show (16 * (r : Int) + (p : Int)).toNat = 16 * r + p by omega] at c
  exact c
theorem cols_s0 (ms : List Int) (r : Nat) (vs : List Int) : cols ms r vs (0 + 1) = mixL (cols ms r vs 0) 0 4 8 12 (mAt ms r 0) (mAt ms r 1) := by
  show colStep ms r (cols ms r vs 0) 0 = _
  unfold colStep
  with_reducible rfl
theorem dias_s0 (ms : List Int) (r : Nat) (vs : List Int) : dias ms r vs (0 + 1) = mixL (dias ms r vs 0) 0 5 10 15 (mAt ms r 8) (mAt ms r 9) := by
  show diaStep ms r (dias ms r vs 0) 0 = _
  unfold diaStep
  with_reducible rfl
theorem cols_s1 (ms : List Int) (r : Nat) (vs : List Int) : cols ms r vs (1 + 1) = mixL (cols ms r vs 1) 1 5 9 13 (mAt ms r 2) (mAt ms r 3) := by
  show colStep ms r (cols ms r vs 1) 1 = _
  unfold colStep
  with_reducible rfl
theorem dias_s1 (ms : List Int) (r : Nat) (vs : List Int) : dias ms r vs (1 + 1) = mixL (dias ms r vs 1) 1 6 11 12 (mAt ms r 10) (mAt ms r 11) := by
  show diaStep ms r (dias ms r vs 1) 1 = _
  unfold diaStep
  with_reducible rfl
theorem cols_s2 (ms : List Int) (r : Nat) (vs : List Int) : cols ms r vs (2 + 1) = mixL (cols ms r vs 2) 2 6 10 14 (mAt ms r 4) (mAt ms r 5) := by
  show colStep ms r (cols ms r vs 2) 2 = _
  unfold colStep
  with_reducible rfl
theorem dias_s2 (ms : List Int) (r : Nat) (vs : List Int) : dias ms r vs (2 + 1) = mixL (dias ms r vs 2) 2 7 8 13 (mAt ms r 12) (mAt ms r 13) := by
  show diaStep ms r (dias ms r vs 2) 2 = _
  unfold diaStep
  with_reducible rfl
theorem cols_s3 (ms : List Int) (r : Nat) (vs : List Int) : cols ms r vs (3 + 1) = mixL (cols ms r vs 3) 3 7 11 15 (mAt ms r 6) (mAt ms r 7) := by
  show colStep ms r (cols ms r vs 3) 3 = _
  unfold colStep
  with_reducible rfl
theorem dias_s3 (ms : List Int) (r : Nat) (vs : List Int) : dias ms r vs (3 + 1) = mixL (dias ms r vs 3) 3 4 9 14 (mAt ms r 14) (mAt ms r 15) := by
  show diaStep ms r (dias ms r vs 3) 3 = _
  unfold diaStep
  with_reducible rfl
/-- The first k of the eight numbers behind the rounds. -/
def finL (h v : List Int) (k : Nat) : List Int := (List.range 8).map fun i => if i < k then Go.bits .xor .u32 (h.getD i 0) (Go.bits .xor .u32 (v.getD i 0) (v.getD (i + 8) 0)) else h.getD i 0
theorem finL_len (h v : List Int) (k : Nat) : (finL h v k).length = 8 := by simp [finL]
theorem finL_zero {h : List Int} (hh : h.length = 8) (v : List Int) : finL h v 0 = h := by
  apply List.ext_getElem (by simp [finL, hh])
  intro i h1 h2
  simp [finL, List.getD_eq_getElem?_getD, List.getElem?_eq_getElem h2]
theorem finL_set (h v : List Int) (k : Nat) (hk : k < 8) : (finL h v k).set k (Go.bits .xor .u32 (h.getD k 0) (Go.bits .xor .u32 (v.getD k 0) (v.getD (k + 8) 0))) = finL h v (k + 1) := by
  apply List.ext_getElem (by simp [finL])
  intro i h1 h2
  simp only [finL, List.getElem_set, List.getElem_map, List.getElem_range]
  by_cases e : k = i
  · subst e
    simp
  · rw [if_neg e]
    have : (i < k) ↔ (i < k + 1) := by omega
    simp only [this]
theorem finL_at (h v : List Int) (k : Nat) (hk : k < 8) : (finL h v k).getD k 0 = h.getD k 0 := by
  simp [finL, List.getD_eq_getElem?_getD, hk]
/-- A block taken in. -/
def takeL (h : List Int) (s : ByteArray) (n : Int) (last : Bool) : List Int := finL h (rounds (pm s 16) (initV h n last) 10) 8
theorem takeL_len (h : List Int) (s : ByteArray) (n : Int) (last : Bool) : (takeL h s n last).length = 8 := finL_len _ _ _
/-- What stands behind the rounds. -/
structure T10 (w0 w : World) (N gv : Nat) (hk vs : List Int) : Prop where
  below : Below w0.heap.size w0 w
  base : w0.heap.size = N
  b0 : Blk w N 89 (nums .u32 hk).toArray
  b1 : Blk w (N + 1) 89 (nums .u32 [0, 0, 0, 0, 0, 0, 0, 0]).toArray
  bv : Blk w gv 104 (nums .u32 vs).toArray
  lv : N + 2 < gv
theorem T10.step {w0 w : World} {N gv : Nat} {hk vs : List Int} (X : T10 w0 w N gv hk vs) (i : Nat) (y : Int) : T10 w0 ((w.setCell ⟨N, i, none⟩ (.int .u32 y)).drew) N gv (hk.set i y) vs := by
  have l1 := X.lv
  have b := X.base
  refine ⟨below_drew (X.below.setCell (by simp; omega) _), X.base, ?_, X.b1.far (by simp) _, X.bv.far (by simp; omega) _, X.lv⟩
  have z := X.b0.set_ i (.int .u32 y)
  rw [nums_set] at z
  exact z
theorem nums_one (vs : List Int) : ∀ v ∈ nums .u32 vs, v.oneCell' = true := by
  intro v hv
  simp only [nums, List.mem_map] at hv
  obtain ⟨x, _, rfl⟩ := hv
  rfl

set_option maxRecDepth 100000 in
set_option maxHeartbeats 20000000 in
theorem take_calls (h : List Int) (s : ByteArray) (n : Int) (last : Bool) (w : World) (hh : h.length = 8) (hs : s.size = 64) :
    Calls Tryz.prog 53 #[.agg (nums .u32 h).toArray, .string s, .int .u64 n, .bool last] w fun e w' => e = .returned (.agg (nums .u32 (takeL h s n last)).toArray) ∧ Below w.heap.size w w' := by
  have HH := Aside0.mk hh
  have HS := Aside0.mk hs
  clear hh hs
  have B0 := (Blk.new w 89 (nums .u32 h).toArray)
  have B1 := Blk.new (w.alloc (.cells (nums .u32 h).toArray 89)) 89 (nums .u32 [0, 0, 0, 0, 0, 0, 0, 0]).toArray
  have B2 := Blk.new ((w.alloc (.cells (nums .u32 h).toArray 89)).alloc (.cells (nums .u32 [0, 0, 0, 0, 0, 0, 0, 0]).toArray 89)) 104 (nums .u32 (pm s 0)).toArray
  have B0 := (B0.alloc (.cells (nums .u32 [0, 0, 0, 0, 0, 0, 0, 0]).toArray 89)).alloc (.cells (nums .u32 (pm s 0)).toArray 104)
  have B1 := B1.alloc (.cells (nums .u32 (pm s 0)).toArray 104)
  have W0 := (((Below.refl w.heap.size w).alloc (Nat.le_refl _) (.cells (nums .u32 h).toArray 89)).alloc (by simp) (.cells (nums .u32 [0, 0, 0, 0, 0, 0, 0, 0]).toArray 89)).alloc (by simp; omega) (.cells (nums .u32 (pm s 0)).toArray 104)
  rw [sz] at B1
  rw [sz, sz] at B2
  generalize hw0 : (((w.alloc (.cells (nums .u32 h).toArray 89)).alloc (.cells (nums .u32 [0, 0, 0, 0, 0, 0, 0, 0]).toArray 89)).alloc (.cells (nums .u32 (pm s 0)).toArray 104)) = w0 at B0 B1 B2 W0
  have HW0 := Aside0.mk hw0
  clear hw0
  have B0 := Aside0.mk B0
  have B1 := Aside0.mk B1
  have B2 := Aside0.mk B2
  have W0 := Aside0.mk W0
  go_enter Tryz.func53, Tryz.ntmps53
  go_wp2
  rw [show (((w.alloc (.cells (nums .u32 h).toArray 89)).alloc (.cells #[.int .u32 0, .int .u32 0, .int .u32 0, .int .u32 0, .int .u32 0, .int .u32 0, .int .u32 0, .int .u32 0] 89)).alloc (.cells #[.int .u32 0, .int .u32 0, .int .u32 0, .int .u32 0, .int .u32 0, .int .u32 0, .int .u32 0, .int .u32 0, .int .u32 0, .int .u32 0, .int .u32 0, .int .u32 0, .int .u32 0, .int .u32 0, .int .u32 0, .int .u32 0] 104)) = w0 from HW0.out]
  go_loopg [17] 16 (fun gk v17 wr => ∃ k : Nat, v17 = .int .i64 k ∧ Aside0 (k + gk = 16) ∧ Aside0 (Below w.heap.size w wr) ∧ Aside0 (Blk wr w.heap.size 89 (nums .u32 h).toArray) ∧
    Aside0 (Blk wr (w.heap.size + 1) 89 (nums .u32 [0, 0, 0, 0, 0, 0, 0, 0]).toArray) ∧ Aside0 (Blk wr (w.heap.size + 1 + 1) 104 (nums .u32 (pm s k)).toArray))
  case atStart => exact ⟨0, rfl, ⟨rfl⟩, W0, B0, B1, B2⟩
  case round =>
    clear B0 B1 B2 W0 HW0
    obtain ⟨k, rfl, hk, W0, B0, B1, B2⟩ := hrel
    by_cases hlt : k < 16
    · have hcell := (B2.out.cell k).trans (nums_get (by rw [pm_len]; exact hlt))
      have hfr := B2.out.frozen k
      have hs4 := HS.out
      have hz : 4 ≤ (s.extract (4 * k) 64).size := by rw [ByteArray.size_extract, hs4]; omega
      have cW := Aside0.mk (fun W => word_calls (s.extract (4 * k) 64) W hz)
      rw [show wordL (s.extract (4 * k) 64) = wordAt s k by unfold wordAt; rw [hs4]] at cW
      clear hz
      go_wp2_with ((with_reducible refine (cW.out _).mono ?_); rintro e w' ⟨rfl, ⟨nd, rfl⟩⟩)
      go_roundg (15 - k)
      case measure => have := hk.out; omega
      case rel =>
        refine ⟨k + 1, by go_num, ⟨by have := hk.out; omega⟩, ⟨(pw_below_drewN W0.out nd).setCell (by simp; omega) _⟩, ⟨(B0.out.drewN nd).far (by simp; omega) _⟩, ⟨(B1.out.drewN nd).far (by simp) _⟩, ⟨?_⟩⟩
        have z := (B2.out.drewN nd).set_ k (.int .u32 (wordAt s k))
        rw [nums_set, pm_set s k hlt] at z
        exact z
    · obtain rfl : k = 16 := by have := hk.out; omega
      clear hlt hk
      go_wp2_with ((with_reducible refine (eight_calls' _).mono ?_); rintro e w' ⟨rfl, hb⟩; have BE := Aside0.mk hb; clear hb)
      have X : T9 w (w'.alloc (.cells (nums .u32 eightL).toArray 89)) w.heap.size wr.heap.size w'.heap.size h (pm s 0) (pm s 16) := by
        have l0 := W0.out.size
        have l2 := B2.out.lt
        have l3 := BE.out.size
        rw [sz] at l3
        have bv := Blk.new wr 104 (nums .u32 (pm s 0)).toArray
        exact ⟨((below_then ((W0.out).alloc (by omega) _) (by rw [sz]; omega) BE.out).alloc (by omega) _), rfl,
          ((B0.out.alloc _).below BE.out (by rw [sz]; omega)).alloc _, ((B1.out.alloc _).below BE.out (by rw [sz]; omega)).alloc _, ((B2.out.alloc _).below BE.out (by rw [sz]; omega)).alloc _,
          (bv.below BE.out (by rw [sz]; omega)).alloc _, Blk.new _ _ _, by omega, by omega⟩
      generalize hw9 : w'.alloc (.cells (nums .u32 eightL).toArray 89) = w9 at X
      have HW9 := Aside0.mk hw9
      rw [show w'.alloc (.cells #[.int .u32 1779033703, .int .u32 3144134277, .int .u32 1013904242, .int .u32 2773480762, .int .u32 1359893119, .int .u32 2600822924, .int .u32 528734635, .int .u32 1541459225] 89) = w9 from hw9]
      clear hw9 B0 B1 B2 W0 BE HW9
      generalize wr.heap.size = gv at X ⊢
      generalize w'.heap.size = gf at X ⊢
      have cp1 := run_copy_row (P := Tryz.prog) w9.drew 106 106 3 88 gv 0 8 16 ⟨w.heap.size, 0, none⟩ 8 8 (nums .u32 (pm s 0)).toArray 104 (nums .u32 h) Tryz.underlying106 (by kernel_rfl) X.bv (by simp [nums, HH.out])
        (nums_cells X.b0.drew) (by simp [nums, pm_len, HH.out]) (nums_one h)
      rw [nums_length, HH.out] at cp1
      have X1 := X.copy1 HH.out
      generalize hw10 : w9.drew.setRow gv _ = w10 at cp1 X1
      have X1 := Aside0.mk X1
      clear hw10 X
      go_still_tail 2, (by kernel_rfl)
      go_wp2
      have X := X1.out
      clear X1
      have lx : (h ++ (pm s 0).drop 8).length = 16 := by simp [HH.out, pm_len]
      have cp2 := run_copy_row (P := Tryz.prog) w10.drew 106 106 3 88 gv 8 8 8 ⟨gf, 0, none⟩ 8 8 (nums .u32 (h ++ (pm s 0).drop 8)).toArray 104 (nums .u32 eightL) Tryz.underlying106 (by kernel_rfl) X.bv (by simp [nums, eightL])
        (nums_cells X.bf.drew) (by simp [nums, lx, eightL]; simp [HH.out, pm_len]) (nums_one eightL)
      rw [nums_length, show eightL.length = 8 from rfl] at cp2
      have X1 := X.copy2 lx
      rw [List.take_left' HH.out] at X1
      generalize hw11 : w10.drew.setRow gv _ = w11 at cp2 X1
      have X1 := Aside0.mk X1
      clear hw11 X cp1 lx
      have l16 : (h ++ eightL).length = 16 := by simp [HH.out, eightL]
      have X2 := (X1.out.set_ 12 (Go.bits .xor .u32 ((h ++ eightL).getD 12 0) (n % 4294967296))).set_ 13 (Go.bits .xor .u32 ((h ++ eightL).getD 13 0) ((n / 4294967296) % 4294967296))
      have q12 : w11.cell? ⟨gv, 12, none⟩ = some (.int .u32 ((h ++ eightL).getD 12 0)) := (X1.out.bv.cell 12).trans (nums_get (by omega))
      have q13 : w11.cell? ⟨gv, 13, none⟩ = some (.int .u32 ((h ++ eightL).getD 13 0)) := (X1.out.bv.cell 13).trans (nums_get (by omega))
      have f12 := X1.out.bv.frozen 12
      have f13 := X1.out.bv.frozen 13
      have q14 : w11.cell? ⟨gv, 14, none⟩ = some (.int .u32 ((h ++ eightL).getD 14 0)) := (X1.out.bv.cell 14).trans (nums_get (by omega))
      have f14 := X1.out.bv.frozen 14
      have e14 : (((h ++ eightL).set 12 (Go.bits .xor .u32 ((h ++ eightL).getD 12 0) (n % 4294967296))).set 13 (Go.bits .xor .u32 ((h ++ eightL).getD 13 0) ((n / 4294967296) % 4294967296))).getD 14 0 = (h ++ eightL).getD 14 0 := by
        simp [List.getD_eq_getElem?_getD]
      have HI : initV h n last = if last then (((h ++ eightL).set 12 (Go.bits .xor .u32 ((h ++ eightL).getD 12 0) (n % 4294967296))).set 13 (Go.bits .xor .u32 ((h ++ eightL).getD 13 0) ((n / 4294967296) % 4294967296))).set 14 (Go.bits .xor .u32 IntKind.u32.max ((h ++ eightL).getD 14 0)) else ((h ++ eightL).set 12 (Go.bits .xor .u32 ((h ++ eightL).getD 12 0) (n % 4294967296))).set 13 (Go.bits .xor .u32 ((h ++ eightL).getD 13 0) ((n / 4294967296) % 4294967296)) := by
        unfold initV
        simp only [e14]
      clear e14 l16
      generalize (h ++ eightL).getD 12 0 = x12 at q12 X2 HI
      generalize (h ++ eightL).getD 13 0 = x13 at q13 X2 HI
      generalize (h ++ eightL).getD 14 0 = x14 at q14 HI
      have X2 := Aside0.mk X2
      have HI := Aside0.mk HI
      clear X1
      go_still_tail 2, (by kernel_rfl)
      go_upto_if 48 with (fail)
      go_cut [] (fun wc => Aside0 (T9 w wc w.heap.size gv gf h (initV h n last) (pm s 16)))
      case first =>
        cases last with
        | true =>
          go_wp2
          go_meet
          case rel =>
            have z := X2.out.set_ 14 (Go.bits .xor .u32 IntKind.u32.max x14)
            rw [HI.out]
            first | exact ⟨z⟩ | (rw [if_pos trivial]; exact ⟨z⟩) | (rw [if_pos rfl]; exact ⟨z⟩)
        | false =>
          go_wp2
          go_meet
          case rel =>
            rw [HI.out]
            first | exact X2 | (rw [if_neg (by decide)]; exact X2)
      case rest =>
        clear X2 HI q12 q13 q14 f12 f13 f14 cp2
        obtain ⟨X⟩ := hcut
        go_wp2
        go_loopg [53] 10 (fun gk v53 wr => ∃ r : Nat, v53 = .int .i64 r ∧ Aside0 (r + gk = 10) ∧ Aside0 (T9 w wr w.heap.size gv gf h (rounds (pm s 16) (initV h n last) r) (pm s 16)))
        case atStart => exact ⟨0, rfl, ⟨rfl⟩, ⟨X⟩⟩
        case round =>
          clear X
          obtain ⟨r, rfl, hr, XR⟩ := hrel
          by_cases hr10 : r < 10
          · have hrb : decide ((r : Int) < 10) = true := decide_eq_true (by omega)
            go_wp2_with fail
            go_loopg [56] 4 (fun gi v56 wi => ∃ i : Nat, v56 = .int .i64 i ∧ Aside0 (i + gi = 4) ∧ Aside0 (T9 w wi w.heap.size gv gf h (cols (pm s 16) r (rounds (pm s 16) (initV h n last) r) i) (pm s 16)))
            case atStart => exact ⟨0, rfl, ⟨rfl⟩, XR⟩
            case round =>
              clear XR
              obtain ⟨i, rfl, hi, XC⟩ := hrel
              have hi4 : i = 0 ∨ i = 1 ∨ i = 2 ∨ i = 3 ∨ i = 4 := by have := hi.out; omega
              rcases hi4 with rfl | rfl | rfl | rfl | rfl
              · obtain ⟨j1, hj1, c1, q1⟩ := row_at r 0 hr10 (by decide) XC.out (pm_len s 16)
                obtain ⟨j2, hj2, c2, q2⟩ := row_at r 1 hr10 (by decide) XC.out (pm_len s 16)
                have k1 := eq_true (show (j1 : Int) < 16 by omega)
                have k2 := eq_true (show (j2 : Int) < 16 by omega)
                have c1 := Aside0.mk c1
                have c2 := Aside0.mk c2
                have cm := Aside0.mk (fun W (hW : Blk W gv 104 (nums .u32 (cols (pm s 16) r (rounds (pm s 16) (initV h n last) r) 0)).toArray) => mix_0_4 (mAt (pm s 16) r 0) (mAt (pm s 16) r 1) (w := W) hW (cols_len _ _ (rounds_len _ (initV_len HH.out n last) r) 0))
                go_wp2_with fail
                refine wp_region_still_tail 20 (by kernel_rfl) (by kernel_rfl) ?_
                simp only [List.take_succ_cons, List.take_zero, List.drop_succ_cons, List.drop_zero]
                repeat still_step
                still_call (c1.out _)
                repeat still_step
                still_call (c2.out _)
                repeat still_step
                refine wpStill_nil ?_
                go_wp2_with fail
                refine (cm.out wr.drew (XC.out.drewN 1).bv).mono ?_
                rintro e w'' ⟨rfl, hM⟩
                have hM := Aside0.mk hM
                go_wp2_with fail
                go_roundg (3)
                case measure => have := hi.out; omega
                case rel => exact ⟨0 + 1, by go_num, ⟨by have := hi.out; omega⟩, ⟨by rw [cols_s0]; exact (XC.out.drewN 1).mix hM.out⟩⟩
              · obtain ⟨j1, hj1, c1, q1⟩ := row_at r 2 hr10 (by decide) XC.out (pm_len s 16)
                obtain ⟨j2, hj2, c2, q2⟩ := row_at r 3 hr10 (by decide) XC.out (pm_len s 16)
                have k1 := eq_true (show (j1 : Int) < 16 by omega)
                have k2 := eq_true (show (j2 : Int) < 16 by omega)
                have c1 := Aside0.mk c1
                have c2 := Aside0.mk c2
                have cm := Aside0.mk (fun W (hW : Blk W gv 104 (nums .u32 (cols (pm s 16) r (rounds (pm s 16) (initV h n last) r) 1)).toArray) => mix_1_5 (mAt (pm s 16) r 2) (mAt (pm s 16) r 3) (w := W) hW (cols_len _ _ (rounds_len _ (initV_len HH.out n last) r) 1))
                go_wp2_with fail
                refine wp_region_still_tail 20 (by kernel_rfl) (by kernel_rfl) ?_
                simp only [List.take_succ_cons, List.take_zero, List.drop_succ_cons, List.drop_zero]
                repeat still_step
                still_call (c1.out _)
                repeat still_step
                still_call (c2.out _)
                repeat still_step
                refine wpStill_nil ?_
                go_wp2_with fail
                refine (cm.out wr.drew (XC.out.drewN 1).bv).mono ?_
                rintro e w'' ⟨rfl, hM⟩
                have hM := Aside0.mk hM
                go_wp2_with fail
                go_roundg (2)
                case measure => have := hi.out; omega
                case rel => exact ⟨1 + 1, by go_num, ⟨by have := hi.out; omega⟩, ⟨by rw [cols_s1]; exact (XC.out.drewN 1).mix hM.out⟩⟩
              · obtain ⟨j1, hj1, c1, q1⟩ := row_at r 4 hr10 (by decide) XC.out (pm_len s 16)
                obtain ⟨j2, hj2, c2, q2⟩ := row_at r 5 hr10 (by decide) XC.out (pm_len s 16)
                have k1 := eq_true (show (j1 : Int) < 16 by omega)
                have k2 := eq_true (show (j2 : Int) < 16 by omega)
                have c1 := Aside0.mk c1
                have c2 := Aside0.mk c2
                have cm := Aside0.mk (fun W (hW : Blk W gv 104 (nums .u32 (cols (pm s 16) r (rounds (pm s 16) (initV h n last) r) 2)).toArray) => mix_2_6 (mAt (pm s 16) r 4) (mAt (pm s 16) r 5) (w := W) hW (cols_len _ _ (rounds_len _ (initV_len HH.out n last) r) 2))
                go_wp2_with fail
                refine wp_region_still_tail 20 (by kernel_rfl) (by kernel_rfl) ?_
                simp only [List.take_succ_cons, List.take_zero, List.drop_succ_cons, List.drop_zero]
                repeat still_step
                still_call (c1.out _)
                repeat still_step
                still_call (c2.out _)
                repeat still_step
                refine wpStill_nil ?_
                go_wp2_with fail
                refine (cm.out wr.drew (XC.out.drewN 1).bv).mono ?_
                rintro e w'' ⟨rfl, hM⟩
                have hM := Aside0.mk hM
                go_wp2_with fail
                go_roundg (1)
                case measure => have := hi.out; omega
                case rel => exact ⟨2 + 1, by go_num, ⟨by have := hi.out; omega⟩, ⟨by rw [cols_s2]; exact (XC.out.drewN 1).mix hM.out⟩⟩
              · obtain ⟨j1, hj1, c1, q1⟩ := row_at r 6 hr10 (by decide) XC.out (pm_len s 16)
                obtain ⟨j2, hj2, c2, q2⟩ := row_at r 7 hr10 (by decide) XC.out (pm_len s 16)
                have k1 := eq_true (show (j1 : Int) < 16 by omega)
                have k2 := eq_true (show (j2 : Int) < 16 by omega)
                have c1 := Aside0.mk c1
                have c2 := Aside0.mk c2
                have cm := Aside0.mk (fun W (hW : Blk W gv 104 (nums .u32 (cols (pm s 16) r (rounds (pm s 16) (initV h n last) r) 3)).toArray) => mix_3_7 (mAt (pm s 16) r 6) (mAt (pm s 16) r 7) (w := W) hW (cols_len _ _ (rounds_len _ (initV_len HH.out n last) r) 3))
                go_wp2_with fail
                refine wp_region_still_tail 20 (by kernel_rfl) (by kernel_rfl) ?_
                simp only [List.take_succ_cons, List.take_zero, List.drop_succ_cons, List.drop_zero]
                repeat still_step
                still_call (c1.out _)
                repeat still_step
                still_call (c2.out _)
                repeat still_step
                refine wpStill_nil ?_
                go_wp2_with fail
                refine (cm.out wr.drew (XC.out.drewN 1).bv).mono ?_
                rintro e w'' ⟨rfl, hM⟩
                have hM := Aside0.mk hM
                go_wp2_with fail
                go_roundg (0)
                case measure => have := hi.out; omega
                case rel => exact ⟨3 + 1, by go_num, ⟨by have := hi.out; omega⟩, ⟨by rw [cols_s3]; exact (XC.out.drewN 1).mix hM.out⟩⟩
              · clear hi
                go_wp2_with fail
                go_loopg [81] 4 (fun gi v81 wi => ∃ i : Nat, v81 = .int .i64 i ∧ Aside0 (i + gi = 4) ∧ Aside0 (T9 w wi w.heap.size gv gf h (dias (pm s 16) r (cols (pm s 16) r (rounds (pm s 16) (initV h n last) r) 4) i) (pm s 16)))
                case atStart => exact ⟨0, rfl, ⟨rfl⟩, XC⟩
                case round =>
                  clear XC
                  obtain ⟨i, rfl, hi, XC⟩ := hrel
                  have hi4 : i = 0 ∨ i = 1 ∨ i = 2 ∨ i = 3 ∨ i = 4 := by have := hi.out; omega
                  rcases hi4 with rfl | rfl | rfl | rfl | rfl
                  · obtain ⟨j1, hj1, c1, q1⟩ := row_at r 8 hr10 (by decide) XC.out (pm_len s 16)
                    obtain ⟨j2, hj2, c2, q2⟩ := row_at r 9 hr10 (by decide) XC.out (pm_len s 16)
                    have k1 := eq_true (show (j1 : Int) < 16 by omega)
                    have k2 := eq_true (show (j2 : Int) < 16 by omega)
                    have c1 := Aside0.mk c1
                    have c2 := Aside0.mk c2
                    have cm := Aside0.mk (fun W (hW : Blk W gv 104 (nums .u32 (dias (pm s 16) r (cols (pm s 16) r (rounds (pm s 16) (initV h n last) r) 4) 0)).toArray) => mix_0_5 (mAt (pm s 16) r 8) (mAt (pm s 16) r 9) (w := W) hW (dias_len _ _ (cols_len _ _ (rounds_len _ (initV_len HH.out n last) r) 4) 0))
                    go_wp2_with fail
                    refine wp_region_still_tail 27 (by kernel_rfl) (by kernel_rfl) ?_
                    simp only [List.take_succ_cons, List.take_zero, List.drop_succ_cons, List.drop_zero]
                    repeat still_step
                    still_call (c1.out _)
                    repeat still_step
                    still_call (c2.out _)
                    repeat still_step
                    refine wpStill_nil ?_
                    go_wp2_with fail
                    rw [show ((4 : Int) + 1 % 4) = 5 from by decide, show ((8 : Int) + 2 % 4) = 10 from by decide, show ((12 : Int) + 3 % 4) = 15 from by decide]
                    refine (cm.out wr.drew (XC.out.drewN 1).bv).mono ?_
                    rintro e w'' ⟨rfl, hM⟩
                    have hM := Aside0.mk hM
                    go_wp2_with fail
                    go_roundg (3)
                    case measure => have := hi.out; omega
                    case rel => exact ⟨0 + 1, by go_num, ⟨by have := hi.out; omega⟩, ⟨by rw [dias_s0]; exact (XC.out.drewN 1).mix hM.out⟩⟩
                  · obtain ⟨j1, hj1, c1, q1⟩ := row_at r 10 hr10 (by decide) XC.out (pm_len s 16)
                    obtain ⟨j2, hj2, c2, q2⟩ := row_at r 11 hr10 (by decide) XC.out (pm_len s 16)
                    have k1 := eq_true (show (j1 : Int) < 16 by omega)
                    have k2 := eq_true (show (j2 : Int) < 16 by omega)
                    have c1 := Aside0.mk c1
                    have c2 := Aside0.mk c2
                    have cm := Aside0.mk (fun W (hW : Blk W gv 104 (nums .u32 (dias (pm s 16) r (cols (pm s 16) r (rounds (pm s 16) (initV h n last) r) 4) 1)).toArray) => mix_1_6 (mAt (pm s 16) r 10) (mAt (pm s 16) r 11) (w := W) hW (dias_len _ _ (cols_len _ _ (rounds_len _ (initV_len HH.out n last) r) 4) 1))
                    go_wp2_with fail
                    refine wp_region_still_tail 27 (by kernel_rfl) (by kernel_rfl) ?_
                    simp only [List.take_succ_cons, List.take_zero, List.drop_succ_cons, List.drop_zero]
                    repeat still_step
                    still_call (c1.out _)
                    repeat still_step
                    still_call (c2.out _)
                    repeat still_step
                    refine wpStill_nil ?_
                    go_wp2_with fail
                    rw [show ((4 : Int) + 2 % 4) = 6 from by decide, show ((8 : Int) + 3 % 4) = 11 from by decide, show ((12 : Int) + 4 % 4) = 12 from by decide]
                    refine (cm.out wr.drew (XC.out.drewN 1).bv).mono ?_
                    rintro e w'' ⟨rfl, hM⟩
                    have hM := Aside0.mk hM
                    go_wp2_with fail
                    go_roundg (2)
                    case measure => have := hi.out; omega
                    case rel => exact ⟨1 + 1, by go_num, ⟨by have := hi.out; omega⟩, ⟨by rw [dias_s1]; exact (XC.out.drewN 1).mix hM.out⟩⟩
                  · obtain ⟨j1, hj1, c1, q1⟩ := row_at r 12 hr10 (by decide) XC.out (pm_len s 16)
                    obtain ⟨j2, hj2, c2, q2⟩ := row_at r 13 hr10 (by decide) XC.out (pm_len s 16)
                    have k1 := eq_true (show (j1 : Int) < 16 by omega)
                    have k2 := eq_true (show (j2 : Int) < 16 by omega)
                    have c1 := Aside0.mk c1
                    have c2 := Aside0.mk c2
                    have cm := Aside0.mk (fun W (hW : Blk W gv 104 (nums .u32 (dias (pm s 16) r (cols (pm s 16) r (rounds (pm s 16) (initV h n last) r) 4) 2)).toArray) => mix_2_7 (mAt (pm s 16) r 12) (mAt (pm s 16) r 13) (w := W) hW (dias_len _ _ (cols_len _ _ (rounds_len _ (initV_len HH.out n last) r) 4) 2))
                    go_wp2_with fail
                    refine wp_region_still_tail 27 (by kernel_rfl) (by kernel_rfl) ?_
                    simp only [List.take_succ_cons, List.take_zero, List.drop_succ_cons, List.drop_zero]
                    repeat still_step
                    still_call (c1.out _)
                    repeat still_step
                    still_call (c2.out _)
                    repeat still_step
                    refine wpStill_nil ?_
                    go_wp2_with fail
                    rw [show ((4 : Int) + 3 % 4) = 7 from by decide, show ((8 : Int) + 4 % 4) = 8 from by decide, show ((12 : Int) + 5 % 4) = 13 from by decide]
                    refine (cm.out wr.drew (XC.out.drewN 1).bv).mono ?_
                    rintro e w'' ⟨rfl, hM⟩
                    have hM := Aside0.mk hM
                    go_wp2_with fail
                    go_roundg (1)
                    case measure => have := hi.out; omega
                    case rel => exact ⟨2 + 1, by go_num, ⟨by have := hi.out; omega⟩, ⟨by rw [dias_s2]; exact (XC.out.drewN 1).mix hM.out⟩⟩
                  · obtain ⟨j1, hj1, c1, q1⟩ := row_at r 14 hr10 (by decide) XC.out (pm_len s 16)
                    obtain ⟨j2, hj2, c2, q2⟩ := row_at r 15 hr10 (by decide) XC.out (pm_len s 16)
                    have k1 := eq_true (show (j1 : Int) < 16 by omega)
                    have k2 := eq_true (show (j2 : Int) < 16 by omega)
                    have c1 := Aside0.mk c1
                    have c2 := Aside0.mk c2
                    have cm := Aside0.mk (fun W (hW : Blk W gv 104 (nums .u32 (dias (pm s 16) r (cols (pm s 16) r (rounds (pm s 16) (initV h n last) r) 4) 3)).toArray) => mix_3_4 (mAt (pm s 16) r 14) (mAt (pm s 16) r 15) (w := W) hW (dias_len _ _ (cols_len _ _ (rounds_len _ (initV_len HH.out n last) r) 4) 3))
                    go_wp2_with fail
                    refine wp_region_still_tail 27 (by kernel_rfl) (by kernel_rfl) ?_
                    simp only [List.take_succ_cons, List.take_zero, List.drop_succ_cons, List.drop_zero]
                    repeat still_step
                    still_call (c1.out _)
                    repeat still_step
                    still_call (c2.out _)
                    repeat still_step
                    refine wpStill_nil ?_
                    go_wp2_with fail
                    rw [show ((4 : Int) + 4 % 4) = 4 from by decide, show ((8 : Int) + 5 % 4) = 9 from by decide, show ((12 : Int) + 6 % 4) = 14 from by decide]
                    refine (cm.out wr.drew (XC.out.drewN 1).bv).mono ?_
                    rintro e w'' ⟨rfl, hM⟩
                    have hM := Aside0.mk hM
                    go_wp2_with fail
                    go_roundg (0)
                    case measure => have := hi.out; omega
                    case rel => exact ⟨3 + 1, by go_num, ⟨by have := hi.out; omega⟩, ⟨by rw [dias_s3]; exact (XC.out.drewN 1).mix hM.out⟩⟩
                  · go_wp2_with fail
                    go_roundg (9 - r)
                    case measure => have := hr.out; omega
                    case rel => exact ⟨r + 1, by go_num, ⟨by have := hr.out; omega⟩, XC⟩
          · obtain rfl : r = 10 := by have := hr.out; omega
            clear hr10 hr
            have XT : Aside0 (T10 w wr w.heap.size gv (finL h (rounds (pm s 16) (initV h n last) 10) 0) (rounds (pm s 16) (initV h n last) 10)) := by
              have z := XR.out
              exact ⟨⟨z.below, z.base, by rw [finL_zero HH.out]; exact z.b0, z.b1, z.bv, z.lv⟩⟩
            have vl := Aside0.mk (rounds_len (pm s 16) (initV_len HH.out n last) 10)
            obtain ⟨vf, hvf⟩ : ∃ V, V = rounds (pm s 16) (initV h n last) 10 := ⟨_, rfl⟩
            have HV := Aside0.mk hvf
            rw [← hvf] at XT vl
            clear XR hvf
            go_wp2_with fail
            go_loopg [114] 8 (fun gk v114 wk => ∃ k : Nat, v114 = .int .i64 k ∧ Aside0 (k + gk = 8) ∧ Aside0 (T10 w wk w.heap.size gv (finL h vf k) vf))
            case atStart => exact ⟨0, rfl, ⟨rfl⟩, XT⟩
            case round =>
              clear XT
              obtain ⟨k, rfl, hk, XK⟩ := hrel
              by_cases hk8 : k < 8
              · have q1 : wr.cell? ⟨w.heap.size, k, none⟩ = some (.int .u32 (h.getD k 0)) := by
                  rw [← finL_at h vf k hk8]
                  exact (XK.out.b0.cell k).trans (nums_get (by rw [finL_len]; exact hk8))
                have q2 : wr.cell? ⟨gv, k, none⟩ = some (.int .u32 (vf.getD k 0)) := (XK.out.bv.cell k).trans (nums_get (by rw [vl.out]; omega))
                have q3 : wr.cell? ⟨gv, k + 8, none⟩ = some (.int .u32 (vf.getD (k + 8) 0)) := (XK.out.bv.cell (k + 8)).trans (nums_get (by rw [vl.out]; omega))
                have f1 := XK.out.b0.frozen k
                have XS := Aside0.mk (XK.out.step k (Go.bits .xor .u32 (h.getD k 0) (Go.bits .xor .u32 (vf.getD k 0) (vf.getD (k + 8) 0))))
                rw [finL_set h vf k hk8] at XS
                generalize h.getD k 0 = yh at q1 XS
                generalize vf.getD k 0 = yv at q2 XS
                generalize vf.getD (k + 8) 0 = yw at q3 XS
                have b1 := eq_true (show (k : Int) < 8 by omega)
                have b2 := eq_true (show (k : Int) < 16 by omega)
                have b3 := eq_true (show (k : Int) + 8 < 16 by omega)
                have b4 := eq_true (show (0 : Int) ≤ (k : Int) + 8 by omega)
                have b5 : ((k : Int) + 8).toNat = k + 8 := by omega
                have b6 : IntKind.i64.wrap ((k : Int) + 8) = (k : Int) + 8 := IntWalk.i64_in _ (by omega)
                go_wp2_with fail
                go_still_tail 13, (by kernel_rfl)
                go_wp2_with fail
                go_roundg (7 - k)
                case measure => have := hk.out; omega
                case rel => exact ⟨k + 1, by go_num, ⟨by have := hk.out; omega⟩, XS⟩
              · obtain rfl : k = 8 := by have := hk.out; omega
                clear hk8 hk
                have e : finL h vf 8 = takeL h s n last := by rw [HV.out]; rfl
                rw [e] at XK
                have tl := takeL_len h s n last
                have hst := run_storeCells_at (P := Tryz.prog) (w.heap.size + 1) 0 89 (nums .u32 (takeL h s n last)) 0 (nums .u32 [0, 0, 0, 0, 0, 0, 0, 0]).toArray wr XK.out.b1 (by simp [nums, tl]) (nums_one _)
                have lz : (nums .u32 (takeL h s n last)).length = 8 := by rw [nums_length]; exact tl
                rw [lz] at hst
                have XB := XK.out.b1.setRow_ (((nums .u32 [0, 0, 0, 0, 0, 0, 0, 0]).toArray.toList.take (0 + 0) ++ nums .u32 (takeL h s n last) ++ (nums .u32 [0, 0, 0, 0, 0, 0, 0, 0]).toArray.toList.drop (0 + 0 + 8)).toArray)
                have XW := below_setRow' XK.out.below (show w.heap.size ≤ w.heap.size + 1 by omega) (((nums .u32 [0, 0, 0, 0, 0, 0, 0, 0]).toArray.toList.take (0 + 0) ++ nums .u32 (takeL h s n last) ++ (nums .u32 [0, 0, 0, 0, 0, 0, 0, 0]).toArray.toList.drop (0 + 0 + 8)).toArray)
                generalize hwz : wr.setRow (w.heap.size + 1) _ = wz at hst XB XW
                have XB : Aside0 (Blk wz (w.heap.size + 1) 89 (nums .u32 (takeL h s n last)).toArray) := ⟨by simpa [nums] using XB⟩
                have XW := Aside0.mk XW
                have g0 := Aside0.mk XK.out.b0
                clear hwz XK e HV vl
                have TL := Aside0.mk tl
                clear tl
                go_wp2_with (first | (refine wpList_load_row rfl 89 _ rfl w.heap.size rfl 89 _ (0, 0) _ g0.out Tryz.underlying89 rfl (by rw [List.size_toArray, nums_length, TL.out]; kernel_rfl) ?_))
                exact bodyPost_ret (results_cell_row (p := 8) (ty := 89) rfl _ _ (w.heap.size + 1) 89 _ (0, 0) _ rfl XB.out Tryz.underlying89 rfl (by rw [List.size_toArray, nums_length, TL.out]; kernel_rfl)) rfl ⟨rfl, XW.out⟩
end Go.Proofs.YtoljjgabgdifbaaGreatDoor.H

