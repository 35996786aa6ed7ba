/- Layer 2's answer: a block is taken in. -/
import Derived.Test.YtoljjgabgdifbaaGreatDoorZbPH4toH5
import Derived.Test.YtoljjgabgdifbaaGreatDoorZbPH13toJ2toPJ3toR1
namespace Go.Proofs.YtoljjgabgdifbaaGreatDoor.H
open Go.RowKit Go.Proofs.YtoljjgabgdifbaaGreatDoorW.PrintWords Go.Proofs.YtoljjgabgdifbaaGreatDoorW.PrintLast
set_option linter.unusedVariables false
set_option linter.unusedSimpArgs false

theorem bt_extract (s : ByteArray) (i j : Nat) (h : i + j < s.size) : bt (s.extract i s.size) (j : Int) = bt s ((i + j : Nat) : Int) := by
  have h1 : j < (s.extract i s.size).size := by rw [ByteArray.size_extract]; omega
  unfold bt
  rw [dif_pos (by rw [Int.toNat_natCast]; exact h1), dif_pos (by rw [Int.toNat_natCast]; exact h)]
  simp only [Int.toNat_natCast, ByteArray.getElem_extract]
theorem or32 (i : Nat) (x y : Int) (hx₀ : 0 ≤ x) (hx : x % 2 ^ i = 0) (hx₁ : x < 2 ^ 32) (hy₀ : 0 ≤ y) (hy : y < 2 ^ i) (hy₁ : y < 2 ^ 32) : Go.bits .or .u32 x y = x + y :=
  bits_join .u32 32 (by decide) (fun n h0 h1 => by rw [IntKind.wrap_u32]; omega) i x y hx₀ hx hx₁ hy₀ hy hy₁
/-- A number of four bytes, summed up. -/
theorem rword (s : ByteArray) (k : Nat) (hk : k < 16) (hs : s.size = 64) :
    (((bt s (4 * (k : Int)) % 4294967296 + bt s (4 * (k : Int) + 1) % 4294967296 * 256 % 4294967296) % 4294967296 + bt s (4 * (k : Int) + 2) % 4294967296 * 65536 % 4294967296) % 4294967296 + bt s (4 * (k : Int) + 3) % 4294967296 * 16777216 % 4294967296) % 4294967296 = wordAt s k := by
  have b0 := bt_range s (4 * (k : Int))
  have b1 := bt_range s (4 * (k : Int) + 1)
  have b2 := bt_range s (4 * (k : Int) + 2)
  have b3 := bt_range s (4 * (k : Int) + 3)
  have x0 := bt_extract s (4 * k) 0 (by omega)
  have x1 := bt_extract s (4 * k) 1 (by omega)
  have x2 := bt_extract s (4 * k) 2 (by omega)
  have x3 := bt_extract s (4 * k) 3 (by omega)
  rw [show ((4 * k + 0 : Nat) : Int) = 4 * (k : Int) by omega] at x0
  rw [show ((4 * k + 1 : Nat) : Int) = 4 * (k : Int) + 1 by omega] at x1
  rw [show ((4 * k + 2 : Nat) : Int) = 4 * (k : Int) + 2 by omega] at x2
  rw [show ((4 * k + 3 : Nat) : Int) = 4 * (k : Int) + 3 by omega] at x3
  unfold wordAt wordL
  rw [show (0 : Int) = ((0 : Nat) : Int) from rfl, show (1 : Int) = ((1 : Nat) : Int) from rfl, show (2 : Int) = ((2 : Nat) : Int) from rfl, show (3 : Int) = ((3 : Nat) : Int) from rfl, x0, x1, x2, x3]
  generalize bt s (4 * (k : Int)) = a0 at b0 ⊢
  rw [show ((1 : Nat) : Int) = 1 from rfl, show ((2 : Nat) : Int) = 2 from rfl, show ((3 : Nat) : Int) = 3 from rfl]
  generalize bt s (4 * (k : Int) + 1) = a1 at b1 ⊢
  generalize bt s (4 * (k : Int) + 2) = a2 at b2 ⊢
  generalize bt s (4 * (k : Int) + 3) = a3 at b3 ⊢
  have e0 : a0 % 4294967296 = a0 := by omega
  have e1 : a1 % 4294967296 * 256 % 4294967296 = a1 * 256 := by omega
  have e2 : a2 % 4294967296 * 65536 % 4294967296 = a2 * 65536 := by omega
  have e3 : a3 % 4294967296 * 16777216 % 4294967296 = a3 * 16777216 := by omega
  rw [e0, e1, e2, e3, or_comm' _ a0 (a1 * 256), or32 8 (a1 * 256) a0 (by omega) (by omega) (by omega) (by omega) (by omega) (by omega), or_comm' _ _ (a2 * 65536), or32 16 (a2 * 65536) (a1 * 256 + a0) (by omega) (by omega) (by omega) (by omega) (by omega) (by omega),
    or_comm' _ _ (a3 * 16777216), or32 24 (a3 * 16777216) (a2 * 65536 + (a1 * 256 + a0)) (by omega) (by omega) (by omega) (by omega) (by omega) (by omega)]
  omega
theorem xor_assoc' (x y z : Int) : Go.bits .xor .u32 (Go.bits .xor .u32 x y) z = Go.bits .xor .u32 x (Go.bits .xor .u32 y z) := by
  have b : ∀ x y, Go.bits .xor .u32 x y = ((BitVec.ofInt 32 x ^^^ BitVec.ofInt 32 y : BitVec 32).toNat : Int) := by
    intro x y
    show IntKind.u32.wrap ((BitVec.ofInt 32 x ^^^ BitVec.ofInt 32 y : BitVec 32).toNat : Int) = _
    rw [IntKind.wrap_u32]
    exact Int.emod_eq_of_lt (by omega) (by have := (BitVec.ofInt 32 x ^^^ BitVec.ofInt 32 y : BitVec 32).isLt; omega)
  rw [b, b x y, b x, b y z, BitVec.ofInt_natCast, BitVec.ofNat_toNat, BitVec.ofInt_natCast, BitVec.ofNat_toNat, BitVec.setWidth_eq, BitVec.setWidth_eq, BitVec.xor_assoc]

set_option maxRecDepth 100000 in
set_option maxHeartbeats 1000000 in
theorem reight_calls (w : World) : Calls Tryz.prog 50 #[] w fun e w' => e = .returned (.agg #[.int .u32 1779033703, .int .u32 3144134277, .int .u32 1013904242, .int .u32 2773480762, .int .u32 1359893119, .int .u32 2600822924, .int .u32 528734635, .int .u32 1541459225]) ∧ Below w.heap.size w w' := by
  go_enter Tryz.func50, Tryz.ntmps50
  go_wp2
  exact bodyPost_ret (results_cell_row (p := 0) (ty := 89) rfl _ _ w.heap.size 89 _ (0, 0) _ rfl (heap_alloc_new _ _) Tryz.underlying89 rfl (by kernel_rfl)) rfl ⟨rfl, (Below.refl _ _).alloc (Nat.le_refl _) _⟩

def placeF (b : Int) : Int := if b ≥ 97 then b - 97 + 10 else b - 48
theorem place_calls (b : Int) (w : World) (h0 : 0 ≤ b) (h1 : b ≤ 255) : Calls Tryz.prog 78 #[.int .u8 b] w fun e w' => e = .returned (.int .i64 (placeF b)) ∧ w' = w := by
  have e1 : IntKind.i64.wrap b = b := IntWalk.i64_in _ (by omega)
  have e2 : IntKind.i64.wrap (b - 97) = b - 97 := IntWalk.i64_in _ (by omega)
  have e3 : IntKind.i64.wrap (b - 97 + 10) = b - 97 + 10 := IntWalk.i64_in _ (by omega)
  have e4 : IntKind.i64.wrap (b - 48) = b - 48 := IntWalk.i64_in _ (by omega)
  unfold placeF
  by_cases hb : b ≥ 97
  · have hb1 := eq_true (show (97 : Int) ≤ b by omega)
    rw [if_pos hb]
    go_enter Tryz.func78, Tryz.ntmps78
    go_wp2
    go_ret
    exact ⟨rfl, rfl⟩
  · have hb1 := eq_false (show ¬ (97 : Int) ≤ b by omega)
    rw [if_neg hb]
    go_enter Tryz.func78, Tryz.ntmps78
    go_wp2
    go_ret
    exact ⟨rfl, rfl⟩

def rowsT : List ByteArray := [⟨#[48, 49, 50, 51, 52, 53, 54, 55, 56, 57, 97, 98, 99, 100, 101, 102]⟩, ⟨#[101, 97, 52, 56, 57, 102, 100, 54, 49, 99, 48, 50, 98, 55, 53, 51]⟩, ⟨#[98, 56, 99, 48, 53, 50, 102, 100, 97, 101, 51, 54, 55, 49, 57, 52]⟩, ⟨#[55, 57, 51, 49, 100, 99, 98, 101, 50, 54, 53, 97, 52, 48, 102, 56]⟩, ⟨#[57, 48, 53, 55, 50, 52, 97, 102, 101, 49, 98, 99, 54, 56, 51, 100]⟩, ⟨#[50, 99, 54, 97, 48, 98, 56, 51, 52, 100, 55, 53, 102, 101, 49, 57]⟩, ⟨#[99, 53, 49, 102, 101, 100, 52, 97, 48, 55, 54, 51, 57, 50, 56, 98]⟩, ⟨#[100, 98, 55, 101, 99, 49, 51, 57, 53, 48, 102, 52, 56, 54, 50, 97]⟩, ⟨#[54, 102, 101, 57, 98, 51, 48, 56, 99, 50, 100, 55, 49, 52, 97, 53]⟩, ⟨#[97, 50, 56, 52, 55, 54, 49, 53, 102, 98, 57, 101, 51, 99, 100, 48]⟩]
def rowT (r : Nat) : ByteArray := rowsT.getD r ⟨#[]⟩
theorem rowT_size (r : Nat) (h : r < 10) : (rowT r).size = 16 := by
  have h' : ∀ r : Fin 10, (rowT r.val).size = 16 := by decide +kernel
  exact h' ⟨r, h⟩
theorem rowT_place (r p : Nat) (h : r < 10) (hp : p < 16) : placeF (bt (rowT r) (p : Int)) = (rowsL.getD (16 * r + p) 0 : Nat) := by
  have h' : ∀ r : Fin 10, ∀ p : Fin 16, placeF (bt (rowT r.val) ((p.val : Nat) : Int)) = (rowsL.getD (16 * r.val + p.val) 0 : Nat) := by decide +kernel
  exact h' ⟨r, h⟩ ⟨p, hp⟩
set_option maxRecDepth 100000 in
set_option maxHeartbeats 1000000 in
theorem rows_calls (w : World) : Calls Tryz.prog 77 #[] w fun e w' => ∃ g : Nat, e = .returned (.slice (some ⟨g, 0, none⟩) 10 10) ∧ (∀ r : Nat, r < 10 → w'.cell? ⟨g, r, none⟩ = some (.string (rowT r))) ∧ Below w.heap.size w w' := by
  go_enter Tryz.func77, Tryz.ntmps77
  go_wp2
  go_ret
  refine ⟨w.heap.size, rfl, fun r hr => ?_, (Below.refl _ _).alloc (Nat.le_refl _) _⟩
  refine ((Blk.new w 9 (rowsT.map Value.string).toArray).cell r).trans ?_
  simp only [List.getElem?_toArray, List.getElem?_map]
  rw [List.getElem?_eq_getElem (by exact hr)]
  simp only [rowT, List.getD_eq_getElem?_getD, Option.map_some]
  rw [List.getElem?_eq_getElem (by exact hr)]
  rfl

/-- The numbers that the rounds begin with, the first k of them. -/
def iv (h : List Int) (k : Nat) : List Int := (List.range 16).map fun i => if i < k then (h ++ eightL).getD i 0 else 0
theorem iv_len (h : List Int) (k : Nat) : (iv h k).length = 16 := by simp [iv]
theorem iv_set (h : List Int) (k : Nat) (hk : k < 16) : (iv h k).set k ((h ++ eightL).getD k 0) = iv h (k + 1) := by
  apply List.ext_getElem (by simp [iv])
  intro i h1 h2
  simp only [iv, List.getElem_set, List.getElem_map, List.getElem_range]
  by_cases e : k = i
  · subst e
    simp
  · rw [if_neg e]
    have : (i < k) ↔ (i < k + 1) := by omega
    simp only [this]
theorem iv_full {h : List Int} (hh : h.length = 8) : iv h 16 = h ++ eightL := by
  apply List.ext_getElem (by simp [iv, hh, eightL])
  intro i h1 h2
  have : i < 16 := by simpa [iv] using h1
  simp only [iv, List.getElem_map, List.getElem_range, if_pos this, List.getD_eq_getElem?_getD, List.getElem?_eq_getElem h2, Option.getD_some]
/-- The numbers in a round, column after column, then diagonal after diagonal. -/
def eightSteps (ms : List Int) (r : Nat) (vs : List Int) (i : Nat) : List Int := if i ≤ 4 then cols ms r vs i else dias ms r (cols ms r vs 4) (i - 4)
theorem eightSteps_len (ms : List Int) (r : Nat) {vs : List Int} (h : vs.length = 16) (i : Nat) : (eightSteps ms r vs i).length = 16 := by
  unfold eightSteps
  split
  · exact cols_len ms r h i
  · exact dias_len ms r (cols_len ms r h 4) _
theorem es0 (ms : List Int) (r : Nat) (vs : List Int) : eightSteps ms r vs (0 + 1) = mixL (eightSteps ms r vs 0) 0 4 8 12 (mAt ms r (2 * 0)) (mAt ms r (2 * 0 + 1)) := by rw [eightSteps, if_pos (by decide), eightSteps, if_pos (by decide)]; exact cols_s0 ms r vs
theorem es1 (ms : List Int) (r : Nat) (vs : List Int) : eightSteps ms r vs (1 + 1) = mixL (eightSteps ms r vs 1) 1 5 9 13 (mAt ms r (2 * 1)) (mAt ms r (2 * 1 + 1)) := by rw [eightSteps, if_pos (by decide), eightSteps, if_pos (by decide)]; exact cols_s1 ms r vs
theorem es2 (ms : List Int) (r : Nat) (vs : List Int) : eightSteps ms r vs (2 + 1) = mixL (eightSteps ms r vs 2) 2 6 10 14 (mAt ms r (2 * 2)) (mAt ms r (2 * 2 + 1)) := by rw [eightSteps, if_pos (by decide), eightSteps, if_pos (by decide)]; exact cols_s2 ms r vs
theorem es3 (ms : List Int) (r : Nat) (vs : List Int) : eightSteps ms r vs (3 + 1) = mixL (eightSteps ms r vs 3) 3 7 11 15 (mAt ms r (2 * 3)) (mAt ms r (2 * 3 + 1)) := by rw [eightSteps, if_pos (by decide), eightSteps, if_pos (by decide)]; exact cols_s3 ms r vs
theorem es4 (ms : List Int) (r : Nat) (vs : List Int) : eightSteps ms r vs (4 + 1) = mixL (eightSteps ms r vs 4) 0 5 10 15 (mAt ms r (2 * 4)) (mAt ms r (2 * 4 + 1)) := by rw [eightSteps, if_neg (by decide), eightSteps, if_pos (by decide)]; exact dias_s0 ms r (cols ms r vs 4)
theorem es5 (ms : List Int) (r : Nat) (vs : List Int) : eightSteps ms r vs (5 + 1) = mixL (eightSteps ms r vs 5) 1 6 11 12 (mAt ms r (2 * 5)) (mAt ms r (2 * 5 + 1)) := by rw [eightSteps, if_neg (by decide), eightSteps, if_neg (by decide)]; exact dias_s1 ms r (cols ms r vs 4)
theorem es6 (ms : List Int) (r : Nat) (vs : List Int) : eightSteps ms r vs (6 + 1) = mixL (eightSteps ms r vs 6) 2 7 8 13 (mAt ms r (2 * 6)) (mAt ms r (2 * 6 + 1)) := by rw [eightSteps, if_neg (by decide), eightSteps, if_neg (by decide)]; exact dias_s2 ms r (cols ms r vs 4)
theorem es7 (ms : List Int) (r : Nat) (vs : List Int) : eightSteps ms r vs (7 + 1) = mixL (eightSteps ms r vs 7) 3 4 9 14 (mAt ms r (2 * 7)) (mAt ms r (2 * 7 + 1)) := by rw [eightSteps, if_neg (by decide), eightSteps, if_neg (by decide)]; exact dias_s3 ms r (cols ms r vs 4)
structure R9 (w0 w : World) (gf : Nat) (h vs ms : List Int) : Prop where
  below : Below w0.heap.size w0 w
  b0 : Blk w w0.heap.size 89 (nums .u32 h).toArray
  b1 : Blk w (w0.heap.size + 1) 89 (nums .u32 [0, 0, 0, 0, 0, 0, 0, 0]).toArray
  bv : Blk w (w0.heap.size + 1 + 1) 104 (nums .u32 vs).toArray
  bm : Blk w (w0.heap.size + 1 + 1 + 1) 104 (nums .u32 ms).toArray
  bf : Blk w gf 89 (nums .u32 eightL).toArray
  lf : w0.heap.size + 1 + 1 + 1 < gf
section
variable {w0 w w' : World} {gf : Nat} {h vs ms : List Int}
theorem R9.drew (X : R9 w0 w gf h vs ms) : R9 w0 w.drew gf h vs ms := ⟨below_drew X.below, X.b0.drew, X.b1.drew, X.bv.drew, X.bm.drew, X.bf.drew, X.lf⟩
theorem R9.drewN (X : R9 w0 w gf h vs ms) (n : Nat) : R9 w0 (w.drewN n) gf h vs ms := ⟨pw_below_drewN X.below n, X.b0.drewN n, X.b1.drewN n, X.bv.drewN n, X.bm.drewN n, X.bf.drewN n, X.lf⟩
theorem R9.far (X : R9 w0 w gf h vs ms) (hb : Below w.heap.size w w') : R9 w0 w' gf h vs ms :=
  ⟨below_then X.below X.below.size hb, X.b0.below hb X.b0.lt, X.b1.below hb X.b1.lt, X.bv.below hb X.bv.lt, X.bm.below hb X.bm.lt, X.bf.below hb X.bf.lt, X.lf⟩
theorem R9.setv (X : R9 w0 w gf h vs ms) (i : Nat) (y : Int) : R9 w0 (w.setCell ⟨w0.heap.size + 1 + 1, i, none⟩ (.int .u32 y)) gf h (vs.set i y) ms := by
  have l := X.lf
  refine ⟨X.below.setCell (by first | (simp; done) | (simp; omega)) _, X.b0.far (by first | (simp; done) | (simp; omega)) _, X.b1.far (by simp) _, ?_, X.bm.far (by simp) _, X.bf.far (by first | (simp; done) | (simp; omega)) _, X.lf⟩
  have z := X.bv.set_ i (.int .u32 y)
  rw [nums_set] at z
  exact z
theorem R9.setm (X : R9 w0 w gf h vs ms) (i : Nat) (y : Int) : R9 w0 (w.setCell ⟨w0.heap.size + 1 + 1 + 1, i, none⟩ (.int .u32 y)) gf h vs (ms.set i y) := by
  have l := X.lf
  refine ⟨X.below.setCell (by first | (simp; done) | (simp; omega)) _, X.b0.far (by first | (simp; done) | (simp; omega)) _, X.b1.far (by first | (simp; done) | (simp; omega)) _, X.bv.far (by simp) _, ?_, X.bf.far (by first | (simp; done) | (simp; omega)) _, X.lf⟩
  have z := X.bm.set_ i (.int .u32 y)
  rw [nums_set] at z
  exact z
theorem R9.seth (X : R9 w0 w gf h vs ms) (i : Nat) (y : Int) : R9 w0 (w.setCell ⟨w0.heap.size, i, none⟩ (.int .u32 y)) gf (h.set i y) vs ms := by
  have l := X.lf
  refine ⟨X.below.setCell (Nat.le_refl _) _, ?_, X.b1.far (by simp) _, X.bv.far (by first | (simp; done) | (simp; omega)) _, X.bm.far (by first | (simp; done) | (simp; omega)) _, X.bf.far (by first | (simp; done) | (simp; omega)) _, X.lf⟩
  have z := X.b0.set_ i (.int .u32 y)
  rw [nums_set] at z
  exact z
theorem R9.rowv (X : R9 w0 w gf h vs ms) (vs' : List Int) : R9 w0 (w.setRow (w0.heap.size + 1 + 1) (nums .u32 vs').toArray) gf h vs' ms := by
  have l := X.lf
  exact ⟨below_setRow' X.below (by omega) _, X.b0.setRow_far (by omega) _, X.b1.setRow_far (by omega) _, X.bv.setRow_ _, X.bm.setRow_far (by omega) _, X.bf.setRow_far (by omega) _, X.lf⟩
end
theorem app_lo (h : List Int) {k : Nat} (hh : h.length = 8) (hk : k < 8) : h.getD k 0 = (h ++ eightL).getD k 0 := by
  simp [List.getD_eq_getElem?_getD, List.getElem?_append_left (show k < h.length by omega)]
theorem app_hi (h : List Int) {k : Nat} (hh : h.length = 8) (hk : 8 ≤ k) : eightL.getD (k - 8) 0 = (h ++ eightL).getD k 0 := by
  simp [List.getD_eq_getElem?_getD, List.getElem?_append_right (show h.length ≤ k by omega), hh]

set_option maxRecDepth 100000 in
set_option maxHeartbeats 20000000 in
theorem rtake_calls (h : List Int) (s : ByteArray) (n : Int) (last : Bool) (w : World) (hh : h.length = 8) (hs : s.size = 64) (hn : 0 ≤ n) (hn2 : n < 18446744073709551616) :
    Calls Tryz.prog 60 #[.agg (nums .u32 h).toArray, .string s, .int .u64 n, .bool last] w fun e w' => e = .returned (.agg (nums .u32 (takeL h s n last)).toArray) ∧ Below w.heap.size w w' := by
  have HH := Aside0.mk hh
  have HS := Aside0.mk hs
  clear hh hs
  have Y0 := Blk.new w 89 (nums .u32 h).toArray
  have Y1 := Blk.new (w.alloc (.cells (nums .u32 h).toArray 89)) 89 (nums .u32 [0, 0, 0, 0, 0, 0, 0, 0]).toArray
  have Y2 := Blk.new ((w.alloc (.cells (nums .u32 h).toArray 89)).alloc (.cells (nums .u32 [0, 0, 0, 0, 0, 0, 0, 0]).toArray 89)) 104 (nums .u32 (iv h 0)).toArray
  have Y3 := Blk.new (((w.alloc (.cells (nums .u32 h).toArray 89)).alloc (.cells (nums .u32 [0, 0, 0, 0, 0, 0, 0, 0]).toArray 89)).alloc (.cells (nums .u32 (iv h 0)).toArray 104)) 104 (nums .u32 (pm s 0)).toArray
  have Y0 := ((Y0.alloc (.cells (nums .u32 [0, 0, 0, 0, 0, 0, 0, 0]).toArray 89)).alloc (.cells (nums .u32 (iv h 0)).toArray 104)).alloc (.cells (nums .u32 (pm s 0)).toArray 104)
  have Y1 := (Y1.alloc (.cells (nums .u32 (iv h 0)).toArray 104)).alloc (.cells (nums .u32 (pm s 0)).toArray 104)
  have Y2 := Y2.alloc (.cells (nums .u32 (pm s 0)).toArray 104)
  have W0 := ((((Below.refl w.heap.size w).alloc (Nat.le_refl _) (.cells (nums .u32 h).toArray 89)).alloc (by simp) (.cells (nums .u32 [0, 0, 0, 0, 0, 0, 0, 0]).toArray 89)).alloc (by simp; omega) (.cells (nums .u32 (iv h 0)).toArray 104)).alloc (by simp; omega) (.cells (nums .u32 (pm s 0)).toArray 104)
  rw [sz] at Y1
  rw [sz, sz] at Y2
  rw [sz, sz, sz] at Y3
  generalize hw0 : ((((w.alloc (.cells (nums .u32 h).toArray 89)).alloc (.cells (nums .u32 [0, 0, 0, 0, 0, 0, 0, 0]).toArray 89)).alloc (.cells (nums .u32 (iv h 0)).toArray 104)).alloc (.cells (nums .u32 (pm s 0)).toArray 104)) = w0 at Y0 Y1 Y2 Y3 W0
  have HW0 := Aside0.mk hw0
  clear hw0
  have Y0 := Aside0.mk Y0
  have Y1 := Aside0.mk Y1
  have Y2 := Aside0.mk Y2
  have Y3 := Aside0.mk Y3
  have W0 := Aside0.mk W0
  have HN := Aside0.mk (And.intro hn hn2)
  clear hn hn2
  go_enter Tryz.func60, Tryz.ntmps60
  go_wp2_with (first | (rw [show ((((w.alloc (.cells (nums .u32 h).toArray 89)).alloc (.cells #[.int .u32 0, .int .u32 0, .int .u32 0, .int .u32 0, .int .u32 0, .int .u32 0, .int .u32 0, .int .u32 0] 89)).alloc (.cells #[.int .u32 0, .int .u32 0, .int .u32 0, .int .u32 0, .int .u32 0, .int .u32 0, .int .u32 0, .int .u32 0, .int .u32 0, .int .u32 0, .int .u32 0, .int .u32 0, .int .u32 0, .int .u32 0, .int .u32 0, .int .u32 0] 104)).alloc (.cells #[.int .u32 0, .int .u32 0, .int .u32 0, .int .u32 0, .int .u32 0, .int .u32 0, .int .u32 0, .int .u32 0, .int .u32 0, .int .u32 0, .int .u32 0, .int .u32 0, .int .u32 0, .int .u32 0, .int .u32 0, .int .u32 0] 104)) = w0 from HW0.out]) | ((with_reducible refine (reight_calls _).mono ?_); rintro e w' ⟨rfl, hb⟩; have BE := Aside0.mk hb; clear hb))
  have X : R9 w (w'.alloc (.cells (nums .u32 eightL).toArray 89)) w'.heap.size h (iv h 0) (pm s 0) := by
    have l3 := BE.out.size
    have y3 := Y3.out.lt
    exact ⟨(below_then W0.out W0.out.size BE.out).alloc (by have := W0.out.size; omega) _, (Y0.out.below BE.out Y0.out.lt).alloc _, (Y1.out.below BE.out Y1.out.lt).alloc _, (Y2.out.below BE.out Y2.out.lt).alloc _, (Y3.out.below BE.out Y3.out.lt).alloc _, Blk.new _ _ _, by omega⟩
  rw [show w'.alloc (.cells #[.int .u32 1779033703, .int .u32 3144134277, .int .u32 1013904242, .int .u32 2773480762, .int .u32 1359893119, .int .u32 2600822924, .int .u32 528734635, .int .u32 1541459225] 89) = w'.alloc (.cells (nums .u32 eightL).toArray 89) from rfl]
  generalize w'.alloc (.cells (nums .u32 eightL).toArray 89) = w9 at X ⊢
  generalize w'.heap.size = gf at X ⊢
  have X := Aside0.mk X
  clear Y0 Y1 Y2 Y3 W0 HW0 BE
  go_loopg [12] 16 (fun gk v12 wl => ∃ k : Nat, v12 = .int .i64 k ∧ Aside0 (k + gk = 16) ∧ Aside0 (R9 w wl gf h (iv h k) (pm s k)))
  case atStart => exact ⟨0, rfl, ⟨rfl⟩, X⟩
  case round =>
    clear X
    obtain ⟨k, rfl, hk, X⟩ := hrel
    by_cases hlt : k < 16
    · have p0 := eq_true (show (0 : Int) ≤ 4 * (k : Int) by omega)
      have e0 : IntKind.i64.wrap (4 * (k : Int)) = 4 * (k : Int) := IntWalk.i64_in _ (by omega)
      have q0 := eq_true (show 4 * (k : Int) < (s.size : Int) by have := HS.out; omega)
      have r0 := eq_true (show (4 * (k : Int)).toNat < s.size by have := HS.out; omega)
      have z0 := eq_true (show (0 : Int) ≤ 4 * (k : Int) by omega)
      have x0 : ∀ h : (4 * (k : Int)).toNat < s.size, ((s[(4 * (k : Int)).toNat]'h).toNat : Int) = bt s (4 * (k : Int)) := bt_at s (4 * (k : Int))
      have e1 : IntKind.i64.wrap (4 * (k : Int) + 1) = 4 * (k : Int) + 1 := IntWalk.i64_in _ (by omega)
      have q1 := eq_true (show 4 * (k : Int) + 1 < (s.size : Int) by have := HS.out; omega)
      have r1 := eq_true (show (4 * (k : Int) + 1).toNat < s.size by have := HS.out; omega)
      have z1 := eq_true (show (0 : Int) ≤ 4 * (k : Int) + 1 by omega)
      have x1 : ∀ h : (4 * (k : Int) + 1).toNat < s.size, ((s[(4 * (k : Int) + 1).toNat]'h).toNat : Int) = bt s (4 * (k : Int) + 1) := bt_at s (4 * (k : Int) + 1)
      have e2 : IntKind.i64.wrap (4 * (k : Int) + 2) = 4 * (k : Int) + 2 := IntWalk.i64_in _ (by omega)
      have q2 := eq_true (show 4 * (k : Int) + 2 < (s.size : Int) by have := HS.out; omega)
      have r2 := eq_true (show (4 * (k : Int) + 2).toNat < s.size by have := HS.out; omega)
      have z2 := eq_true (show (0 : Int) ≤ 4 * (k : Int) + 2 by omega)
      have x2 : ∀ h : (4 * (k : Int) + 2).toNat < s.size, ((s[(4 * (k : Int) + 2).toNat]'h).toNat : Int) = bt s (4 * (k : Int) + 2) := bt_at s (4 * (k : Int) + 2)
      have e3 : IntKind.i64.wrap (4 * (k : Int) + 3) = 4 * (k : Int) + 3 := IntWalk.i64_in _ (by omega)
      have q3 := eq_true (show 4 * (k : Int) + 3 < (s.size : Int) by have := HS.out; omega)
      have r3 := eq_true (show (4 * (k : Int) + 3).toNat < s.size by have := HS.out; omega)
      have z3 := eq_true (show (0 : Int) ≤ 4 * (k : Int) + 3 by omega)
      have x3 : ∀ h : (4 * (k : Int) + 3).toNat < s.size, ((s[(4 * (k : Int) + 3).toNat]'h).toNat : Int) = bt s (4 * (k : Int) + 3) := bt_at s (4 * (k : Int) + 3)
      have lt1 := eq_true (show (k : Int) < 16 by omega)
      have fm := X.out.bm.frozen k
      have cm := (X.out.bm.cell k).trans (nums_get (by rw [pm_len]; exact hlt))
      have X1 := (X.out.setm k (wordAt s k)).drew
      rw [pm_set s k hlt] at X1
      generalize hw1 : (wr.setCell ⟨w.heap.size + 1 + 1 + 1, k, none⟩ (.int .u32 (wordAt s k))).drew = w1 at X1
      have J1 := Aside0.mk hw1
      have fv := X1.bv.frozen k
      have cv := (X1.bv.cell k).trans (nums_get (by rw [iv_len]; exact hlt))
      have RW := Aside0.mk (rword s k hlt HS.out)
      by_cases k8 : k < 8
      · have lt2 := eq_true (show (k : Int) < 8 by omega)
        have ch := (X1.b0.cell k).trans (nums_get (by rw [HH.out]; exact k8))
        have X2 := X1.setv k ((h ++ eightL).getD k 0)
        rw [iv_set h k hlt, ← app_lo h HH.out k8] at X2
        have X2 := Aside0.mk X2
        clear X1 hw1
        go_wp2_with fail
        go_still_tail 31, (by kernel_rfl)
        go_wp2_with (first | (rw [show (wr.setCell ⟨w.heap.size + 1 + 1 + 1, k, none⟩ (.int .u32 ((((bt s (4 * (k : Int)) % 4294967296 + bt s (4 * (k : Int) + 1) % 4294967296 * 256 % 4294967296) % 4294967296 + bt s (4 * (k : Int) + 2) % 4294967296 * 65536 % 4294967296) % 4294967296 + bt s (4 * (k : Int) + 3) % 4294967296 * 16777216 % 4294967296) % 4294967296))).drew = w1 from by rw [RW.out]; exact J1.out]))
        go_roundg (15 - k)
        case measure => have := hk.out; omega
        case rel => exact ⟨k + 1, by go_num, ⟨by have := hk.out; omega⟩, X2⟩
      · have lt2 := eq_false (show ¬ (k : Int) < 8 by omega)
        have lt3 := eq_true (show (k : Int) - 8 < 8 by omega)
        have lt4 := eq_true (show (0 : Int) ≤ (k : Int) - 8 by omega)
        have tn : ((k : Int) - 8).toNat = k - 8 := by omega
        have ew : IntKind.i64.wrap ((k : Int) - 8) = (k : Int) - 8 := IntWalk.i64_in _ (by omega)
        have ch := (X1.bf.cell (k - 8)).trans (nums_get (by show k - 8 < 8; omega))
        have X2 := X1.setv k ((h ++ eightL).getD k 0)
        rw [iv_set h k hlt, ← app_hi h HH.out (by omega)] at X2
        have X2 := Aside0.mk X2
        clear X1 hw1
        go_wp2_with fail
        go_still_tail 31, (by kernel_rfl)
        go_wp2_with (first | (rw [show (wr.setCell ⟨w.heap.size + 1 + 1 + 1, k, none⟩ (.int .u32 ((((bt s (4 * (k : Int)) % 4294967296 + bt s (4 * (k : Int) + 1) % 4294967296 * 256 % 4294967296) % 4294967296 + bt s (4 * (k : Int) + 2) % 4294967296 * 65536 % 4294967296) % 4294967296 + bt s (4 * (k : Int) + 3) % 4294967296 * 16777216 % 4294967296) % 4294967296))).drew = w1 from by rw [RW.out]; exact J1.out]))
        go_roundg (15 - k)
        case measure => have := hk.out; omega
        case rel => exact ⟨k + 1, by go_num, ⟨by have := hk.out; omega⟩, X2⟩
    · obtain rfl : k = 16 := by have := hk.out; omega
      clear hlt hk
      have X := X.out
      rw [iv_full HH.out] at X
      have l16 : (h ++ eightL).length = 16 := by simp [HH.out, eightL]
      have q12 := (X.bv.cell 12).trans (nums_get (by omega))
      have f12 := X.bv.frozen 12
      have X1 := X.setv 12 (Go.bits .xor .u32 ((h ++ eightL).getD 12 0) (n % 4294967296))
      generalize hw1 : wr.setCell ⟨w.heap.size + 1 + 1, 12, none⟩ (.int .u32 (Go.bits .xor .u32 ((h ++ eightL).getD 12 0) (n % 4294967296))) = w1 at X1
      have q13 := (X1.bv.cell 13).trans (nums_get (by rw [List.length_set]; omega))
      rw [getD_set_ne (by decide)] at q13
      have f13 := X1.bv.frozen 13
      have X2 := X1.setv 13 (Go.bits .xor .u32 ((h ++ eightL).getD 13 0) (n / 4294967296 % 4294967296))
      generalize hw2 : w1.setCell ⟨w.heap.size + 1 + 1, 13, none⟩ (.int .u32 (Go.bits .xor .u32 ((h ++ eightL).getD 13 0) (n / 4294967296 % 4294967296))) = w2 at X2
      have q14 := (X2.bv.cell 14).trans (nums_get (by rw [List.length_set, List.length_set]; omega))
      rw [getD_set_ne (by decide), getD_set_ne (by decide)] at q14
      have f14 := X2.bv.frozen 14
      have e14 : (((h ++ eightL).set 12 (Go.bits .xor .u32 ((h ++ eightL).getD 12 0) (n % 4294967296))).set 13 (Go.bits .xor .u32 ((h ++ eightL).getD 13 0) (n / 4294967296 % 4294967296))).getD 14 0 = (h ++ eightL).getD 14 0 := by
        rw [getD_set_ne (by decide), getD_set_ne (by decide)]
      have c14 : (h ++ eightL).getD 14 0 = 528734635 := by rw [← app_hi h HH.out (by decide)]; rfl
      have HI : initV h n last = if last then (((h ++ eightL).set 12 (Go.bits .xor .u32 ((h ++ eightL).getD 12 0) (n % 4294967296))).set 13 (Go.bits .xor .u32 ((h ++ eightL).getD 13 0) (n / 4294967296 % 4294967296))).set 14 (4294967295 - 528734635) else ((h ++ eightL).set 12 (Go.bits .xor .u32 ((h ++ eightL).getD 12 0) (n % 4294967296))).set 13 (Go.bits .xor .u32 ((h ++ eightL).getD 13 0) (n / 4294967296 % 4294967296)) := by
        unfold initV
        simp only [e14, c14]
        rw [show Go.bits .xor .u32 IntKind.u32.max 528734635 = 4294967295 - 528734635 from by decide +kernel]
      rw [c14] at q14
      have n0 := HN.out.1
      have nn0 := eq_true (show (0 : Int) ≤ n / 4294967296 by omega)
      have et : IntKind.u64.wrap (n.tdiv 4294967296) = n / 4294967296 := by
        rw [Int.tdiv_eq_ediv_of_nonneg n0]
        have := HN.out.2
        simp [IntKind.wrap, IntKind.bits, IntKind.signed]
        omega
      have e12 : n % 4294967296 % 4294967296 = n % 4294967296 := by omega
      generalize (h ++ eightL).getD 12 0 = x12 at q12 X2 HI hw1
      generalize (h ++ eightL).getD 13 0 = x13 at q13 X2 HI hw2
      have J1 := Aside0.mk hw1
      have J2 := Aside0.mk hw2
      have X2 := Aside0.mk X2
      have HI := Aside0.mk HI
      clear X X1 hw1 hw2 c14 e14 l16
      go_upto_if 83 with (first | (rw [show wr.setCell ⟨w.heap.size + 1 + 1, 12, none⟩ (.int .u32 (Go.bits .xor .u32 x12 (n % 4294967296))) = w1 from J1.out]) | (rw [show w1.setCell ⟨w.heap.size + 1 + 1, 13, none⟩ (.int .u32 (Go.bits .xor .u32 x13 (n / 4294967296 % 4294967296))) = w2 from J2.out]))
      go_cut [] (fun wc => Aside0 (R9 w wc gf h (initV h n last) (pm s 16)))
      case first =>
        cases last with
        | true =>
          go_wp2
          go_meet
          case rel =>
            have z := X2.out.setv 14 (4294967295 - 528734635)
            rw [HI.out]
            first | exact ⟨z⟩ | (rw [if_pos trivial]; exact ⟨z⟩) | (rw [if_pos rfl]; exact ⟨z⟩)
        | false =>
          go_wp2
          go_meet
          case rel =>
            rw [HI.out]
            first | exact X2 | (rw [if_neg (by decide)]; exact X2)
      case rest =>
        clear X2 HI q12 q13 q14 f12 f13 f14 J1 J2 et e12 nn0 n0
        obtain ⟨X⟩ := hcut
        have vl0 := Aside0.mk (initV_len HH.out n last)
        obtain ⟨v0, hv0⟩ : ∃ v0, v0 = initV h n last := ⟨_, rfl⟩
        have HV0 := Aside0.mk hv0
        rw [← hv0] at X vl0
        clear hv0
        have X := Aside0.mk X
        go_wp2_with fail
        go_loopg [13] 10 (fun gk v13 wl => ∃ r : Nat, v13 = .int .i64 r ∧ Aside0 (r + gk = 10) ∧ Aside0 (R9 w wl gf h (rounds (pm s 16) v0 r) (pm s 16)))
        case atStart => exact ⟨0, rfl, ⟨rfl⟩, X⟩
        case round =>
          clear X
          obtain ⟨r, rfl, hr, X⟩ := hrel
          by_cases hr10 : r < 10
          · have lr := eq_true (show (r : Int) < 10 by omega)
            go_wp2_with ((with_reducible refine (rows_calls _).mono ?_); rintro e w3 ⟨gr, rfl, hrows, hb⟩; have XR := Aside0.mk (X.out.far hb); have crow := hrows r hr10; clear hb hrows)
            have HP := Aside0.mk (rowT_place r · hr10)
            have TS := Aside0.mk (rowT_size r hr10)
            generalize rowT r = T at crow HP TS ⊢
            have vlr := Aside0.mk (rounds_len (pm s 16) vl0.out r)
            obtain ⟨vr, hvr⟩ : ∃ vr, vr = rounds (pm s 16) v0 r := ⟨_, rfl⟩
            have HVR := Aside0.mk hvr
            rw [← hvr] at XR vlr
            clear hvr X
            have XR : Aside0 (R9 w w3 gf h (eightSteps (pm s 16) r vr 0) (pm s 16)) := XR
            go_wp2_with fail
            go_loopg [15] 8 (fun gi v15 wi => ∃ i : Nat, v15 = .int .i64 i ∧ Aside0 (i + gi = 8) ∧ Aside0 (R9 w wi gf h (eightSteps (pm s 16) r vr i) (pm s 16)))
            case atStart => exact ⟨0, rfl, ⟨rfl⟩, XR⟩
            case round =>
              clear XR crow
              obtain ⟨i, rfl, hi, X⟩ := hrel
              by_cases hi8 : i < 8
              · have li := eq_true (show (i : Int) < 8 by omega)
                have e0 : IntKind.i64.wrap (2 * (i : Int)) = 2 * (i : Int) := IntWalk.i64_in _ (by omega)
                have a0 := eq_true (show 2 * (i : Int) < (T.size : Int) by have := TS.out; omega)
                have b0 := eq_true (show (2 * (i : Int)).toNat < T.size by have := TS.out; omega)
                have z0 := eq_true (show (0 : Int) ≤ 2 * (i : Int) by omega)
                have x0 : ∀ h : (2 * (i : Int)).toNat < T.size, ((T[(2 * (i : Int)).toNat]'h).toNat : Int) = bt T (2 * (i : Int)) := bt_at T (2 * (i : Int))
                have e1 : IntKind.i64.wrap (2 * (i : Int) + 1) = 2 * (i : Int) + 1 := IntWalk.i64_in _ (by omega)
                have a1 := eq_true (show 2 * (i : Int) + 1 < (T.size : Int) by have := TS.out; omega)
                have b1 := eq_true (show (2 * (i : Int) + 1).toNat < T.size by have := TS.out; omega)
                have z1 := eq_true (show (0 : Int) ≤ 2 * (i : Int) + 1 by omega)
                have x1 : ∀ h : (2 * (i : Int) + 1).toNat < T.size, ((T[(2 * (i : Int) + 1).toNat]'h).toNat : Int) = bt T (2 * (i : Int) + 1) := bt_at T (2 * (i : Int) + 1)
                have pl0 := HP.out (2 * i) (by omega)
                have pl1 := HP.out (2 * i + 1) (by omega)
                rw [show ((2 * i : Nat) : Int) = 2 * (i : Int) by omega] at pl0
                rw [show ((2 * i + 1 : Nat) : Int) = 2 * (i : Int) + 1 by omega] at pl1
                have lj0 := rowsL_lt (16 * r + 2 * i)
                have lj1 := rowsL_lt (16 * r + (2 * i + 1))
                have P0 : Aside0 (∀ W, Calls Tryz.prog 78 #[.int .u8 (bt T (2 * (i : Int)))] W fun e w' => e = .returned (.int .i64 (rowsL.getD (16 * r + 2 * i) 0 : Nat)) ∧ w' = W) := ⟨fun W => by rw [← pl0]; exact place_calls _ W (bt_range _ _).1 (bt_range _ _).2⟩
                have P1 : Aside0 (∀ W, Calls Tryz.prog 78 #[.int .u8 (bt T (2 * (i : Int) + 1))] W fun e w' => e = .returned (.int .i64 (rowsL.getD (16 * r + (2 * i + 1)) 0 : Nat)) ∧ w' = W) := ⟨fun W => by rw [← pl1]; exact place_calls _ W (bt_range _ _).1 (bt_range _ _).2⟩
                have q0 : wr.drew.cell? ⟨w.heap.size + 1 + 1 + 1, rowsL.getD (16 * r + 2 * i) 0, none⟩ = some (.int .u32 (mAt (pm s 16) r (2 * i))) := (X.out.bm.cell _).trans (nums_get (by rw [pm_len]; exact lj0))
                have q1 : wr.drew.cell? ⟨w.heap.size + 1 + 1 + 1, rowsL.getD (16 * r + (2 * i + 1)) 0, none⟩ = some (.int .u32 (mAt (pm s 16) r (2 * i + 1))) := (X.out.bm.cell _).trans (nums_get (by rw [pm_len]; exact lj1))
                generalize rowsL.getD (16 * r + 2 * i) 0 = j0 at P0 q0 lj0
                generalize rowsL.getD (16 * r + (2 * i + 1)) 0 = j1 at P1 q1 lj1
                have m0e : ∃ m0, m0 = mAt (pm s 16) r (2 * i) := ⟨_, rfl⟩
                obtain ⟨m0, hm0⟩ := m0e
                have m1e : ∃ m1, m1 = mAt (pm s 16) r (2 * i + 1) := ⟨_, rfl⟩
                obtain ⟨m1, hm1⟩ := m1e
                rw [← hm0] at q0
                rw [← hm1] at q1
                have M0 := Aside0.mk hm0
                have M1 := Aside0.mk hm1
                have ij0 := eq_true (show (j0 : Int) < 16 by omega)
                have ij1 := eq_true (show (j1 : Int) < 16 by omega)
                clear hm0 hm1 pl0 pl1
                go_wp2_with fail
                refine start_ (n := 17) (S := fun w' => w'.cell? ⟨w.heap.size + 1 + 1 + 1, j0, none⟩ = some (.int .u32 m0) ∧ w'.cell? ⟨w.heap.size + 1 + 1 + 1, j1, none⟩ = some (.int .u32 m1)) (ds := []) #[false, false, false, false, false, false, false, false, false, false, false, false, false, false, false, false, false] (by kernel_rfl) rfl rfl ⟨q0, q1⟩ (fun hHeld => ?_)
                refine pure_ (i := 0) (N := some 100) (v := ?_) (a' := ?_) #[true, false, false, false, false, false, false, false, false, false, false, false, false, false, false, false, false] rfl rfl (by kernel_rfl) (fun _ _ _ h => h) (Or.inl ⟨by rfl, ?_⟩) ?_ ?_
                rotate_left
                · intro w'
                  go_simp
                  with_reducible rfl
                rotate_left
                · simp only [Act.put, List.setIfInBounds_toArray, List.set_cons_zero, List.set_cons_succ, i64_w, i32_w]
                  rfl
                refine pure_ (i := 1) (N := some 101) (v := ?_) (a' := ?_) #[true, true, false, false, false, false, false, false, false, false, false, false, false, false, false, false, false] rfl rfl (by kernel_rfl) (fun _ _ _ h => h) (Or.inl ⟨by rfl, ?_⟩) ?_ ?_
                rotate_left
                · intro w'
                  go_simp
                  with_reducible rfl
                rotate_left
                · simp only [Act.put, List.setIfInBounds_toArray, List.set_cons_zero, List.set_cons_succ, i64_w, i32_w]
                  rfl
                refine pure_ (i := 2) (N := some 102) (v := ?_) (a' := ?_) #[true, true, true, false, false, false, false, false, false, false, false, false, false, false, false, false, false] rfl rfl (by kernel_rfl) (fun _ _ _ h => h) (Or.inl ⟨by rfl, ?_⟩) ?_ ?_
                rotate_left
                · intro w'
                  go_simp
                  with_reducible rfl
                rotate_left
                · simp only [Act.put, List.setIfInBounds_toArray, List.set_cons_zero, List.set_cons_succ, i64_w, i32_w]
                  rfl
                refine pure_ (i := 7) (N := some 107) (v := ?_) (a' := ?_) #[true, true, true, false, false, false, false, true, false, false, false, false, false, false, false, false, false] rfl rfl (by kernel_rfl) (fun _ _ _ h => h) (Or.inl ⟨by rfl, ?_⟩) ?_ ?_
                rotate_left
                · intro w'
                  go_simp
                  with_reducible rfl
                rotate_left
                · simp only [Act.put, List.setIfInBounds_toArray, List.set_cons_zero, List.set_cons_succ, i64_w, i32_w]
                  rfl
                refine pure_ (i := 8) (N := some 108) (v := ?_) (a' := ?_) #[true, true, true, false, false, false, false, true, true, false, false, false, false, false, false, false, false] rfl rfl (by kernel_rfl) (fun _ _ _ h => h) (Or.inl ⟨by rfl, ?_⟩) ?_ ?_
                rotate_left
                · intro w'
                  go_simp
                  with_reducible rfl
                rotate_left
                · simp only [Act.put, List.setIfInBounds_toArray, List.set_cons_zero, List.set_cons_succ, i64_w, i32_w]
                  rfl
                refine pure_ (i := 9) (N := some 109) (v := ?_) (a' := ?_) #[true, true, true, false, false, false, false, true, true, true, false, false, false, false, false, false, false] rfl rfl (by kernel_rfl) (fun _ _ _ h => h) (Or.inl ⟨by rfl, ?_⟩) ?_ ?_
                rotate_left
                · intro w'
                  go_simp
                  with_reducible rfl
                rotate_left
                · simp only [Act.put, List.setIfInBounds_toArray, List.set_cons_zero, List.set_cons_succ, i64_w, i32_w]
                  rfl
                refine pure_ (i := 10) (N := some 110) (v := ?_) (a' := ?_) #[true, true, true, false, false, false, false, true, true, true, true, false, false, false, false, false, false] rfl rfl (by kernel_rfl) (fun _ _ _ h => h) (Or.inl ⟨by rfl, ?_⟩) ?_ ?_
                rotate_left
                · intro w'
                  go_simp
                  with_reducible rfl
                rotate_left
                · simp only [Act.put, List.setIfInBounds_toArray, List.set_cons_zero, List.set_cons_succ, i64_w, i32_w]
                  rfl
                refine take_ (i := 3) (N := some 103) (v := ?_) (a' := ?_) #[true, true, true, true, false, false, false, true, true, true, true, false, false, false, false, false, false] rfl rfl (by kernel_rfl) (fun _ _ _ h => h) (Or.inl ⟨by rfl, ?_⟩) hHeld ?_ ?_
                rotate_left
                · rintro w' ⟨s0, s1⟩
                  go_simp
                  with_reducible rfl
                rotate_left
                · simp only [Act.put, List.setIfInBounds_toArray, List.set_cons_zero, List.set_cons_succ, i64_w, i32_w]
                  rfl
                refine take_ (i := 11) (N := some 111) (v := ?_) (a' := ?_) #[true, true, true, true, false, false, false, true, true, true, true, true, false, false, false, false, false] rfl rfl (by kernel_rfl) (fun _ _ _ h => h) (Or.inl ⟨by rfl, ?_⟩) hHeld ?_ ?_
                rotate_left
                · rintro w' ⟨s0, s1⟩
                  go_simp
                  with_reducible rfl
                rotate_left
                · simp only [Act.put, List.setIfInBounds_toArray, List.set_cons_zero, List.set_cons_succ, i64_w, i32_w]
                  rfl
                refine one_ (i := 4) (N := some 104) #[true, true, true, true, true, false, false, true, true, true, true, true, false, false, false, false, false] rfl rfl (by kernel_rfl) (by decide) (fun K hK => ?_)
                refine goes_ Tryz.func78 (by kernel_rfl) rfl #[.int .u8 (bt T (2 * (i : Int)))] (by rfl) rfl rfl (by simp only [List.map_toArray, List.map_cons, List.map_nil]; rfl) ?_
                with_reducible refine (P0.out _).mono ?_
                rintro e w3 ⟨rfl, rfl⟩
                refine ⟨_, rfl, ?_⟩
                refine hK.out _ _ ⟨q0, q1⟩ (fun hHeld => ?_)
                clear hK K
                refine norm_ (a' := ?_) ?_ ?_
                rotate_left
                · show Act.put _ (some 104) _ = _
                  simp only [Act.put, List.setIfInBounds_toArray, List.set_cons_zero, List.set_cons_succ, i64_w, i32_w]
                  rfl
                refine pure_ (i := 5) (N := some 105) (v := ?_) (a' := ?_) #[true, true, true, true, true, true, false, true, true, true, true, true, false, false, false, false, false] rfl rfl (by kernel_rfl) (fun _ _ _ h => h) (Or.inl ⟨by rfl, ?_⟩) ?_ ?_
                rotate_left
                · intro w'
                  go_simp
                  with_reducible rfl
                rotate_left
                · simp only [Act.put, List.setIfInBounds_toArray, List.set_cons_zero, List.set_cons_succ, i64_w, i32_w]
                  rfl
                refine take_ (i := 6) (N := some 106) (v := ?_) (a' := ?_) #[true, true, true, true, true, true, true, true, true, true, true, true, false, false, false, false, false] rfl rfl (by kernel_rfl) (fun _ _ _ h => h) (Or.inl ⟨by rfl, ?_⟩) hHeld ?_ ?_
                rotate_left
                · rintro w' ⟨s0, s1⟩
                  go_simp
                  with_reducible rfl
                rotate_left
                · simp only [Act.put, List.setIfInBounds_toArray, List.set_cons_zero, List.set_cons_succ, i64_w, i32_w]
                  rfl
                refine one_ (i := 12) (N := some 112) #[true, true, true, true, true, true, true, true, true, true, true, true, true, false, false, false, false] rfl rfl (by kernel_rfl) (by decide) (fun K hK => ?_)
                refine goes_ Tryz.func78 (by kernel_rfl) rfl #[.int .u8 (bt T (2 * (i : Int) + 1))] (by rfl) rfl rfl (by simp only [List.map_toArray, List.map_cons, List.map_nil]; rfl) ?_
                with_reducible refine (P1.out _).mono ?_
                rintro e w3 ⟨rfl, rfl⟩
                refine ⟨_, rfl, ?_⟩
                refine hK.out _ _ ⟨q0, q1⟩ (fun hHeld => ?_)
                clear hK K
                refine norm_ (a' := ?_) ?_ ?_
                rotate_left
                · show Act.put _ (some 112) _ = _
                  simp only [Act.put, List.setIfInBounds_toArray, List.set_cons_zero, List.set_cons_succ, i64_w, i32_w]
                  rfl
                refine pure_ (i := 13) (N := some 113) (v := ?_) (a' := ?_) #[true, true, true, true, true, true, true, true, true, true, true, true, true, true, false, false, false] rfl rfl (by kernel_rfl) (fun _ _ _ h => h) (Or.inl ⟨by rfl, ?_⟩) ?_ ?_
                rotate_left
                · intro w'
                  go_simp
                  with_reducible rfl
                rotate_left
                · simp only [Act.put, List.setIfInBounds_toArray, List.set_cons_zero, List.set_cons_succ, i64_w, i32_w]
                  rfl
                refine pure_ (i := 15) (N := some 16) (v := ?_) (a' := ?_) #[true, true, true, true, true, true, true, true, true, true, true, true, true, true, false, true, false] rfl rfl (by kernel_rfl) (fun _ _ _ h => h) (Or.inl ⟨by rfl, ?_⟩) ?_ ?_
                rotate_left
                · intro w'
                  go_simp
                  with_reducible rfl
                rotate_left
                · simp only [Act.put, List.setIfInBounds_toArray, List.set_cons_zero, List.set_cons_succ, i64_w, i32_w]
                  rfl
                refine take_ (i := 14) (N := some 114) (v := ?_) (a' := ?_) #[true, true, true, true, true, true, true, true, true, true, true, true, true, true, true, true, false] rfl rfl (by kernel_rfl) (fun _ _ _ h => h) (Or.inl ⟨by rfl, ?_⟩) hHeld ?_ ?_
                rotate_left
                · rintro w' ⟨s0, s1⟩
                  go_simp
                  with_reducible rfl
                rotate_left
                · simp only [Act.put, List.setIfInBounds_toArray, List.set_cons_zero, List.set_cons_succ, i64_w, i32_w]
                  rfl
                refine pure_ (i := 16) (N := some 17) (v := ?_) (a' := ?_) #[true, true, true, true, true, true, true, true, true, true, true, true, true, true, true, true, true] rfl rfl (by kernel_rfl) (fun _ _ _ h => h) (Or.inl ⟨by rfl, ?_⟩) ?_ ?_
                rotate_left
                · intro w'
                  go_simp
                  with_reducible rfl
                rotate_left
                · simp only [Act.put, List.setIfInBounds_toArray, List.set_cons_zero, List.set_cons_succ, i64_w, i32_w]
                  rfl
                refine done_ (by kernel_rfl) ?_

                clear hHeld q0 q1 P0 P1 ij0 ij1 lj0 lj1 e0 e1 a0 a1 b0 b1 z0 z1 x0 x1
                have XD := Aside0.mk X.out.drew
                have HLV := Aside0.mk (eightSteps_len (pm s 16) r vlr.out i)
                clear X
                generalize wr.drew = wd at XD ⊢
                have hi' : i = 0 ∨ i = 1 ∨ i = 2 ∨ i = 3 ∨ i = 4 ∨ i = 5 ∨ i = 6 ∨ i = 7 := by omega
                clear hi8 li
                rcases hi' with rfl | rfl | rfl | rfl | rfl | rfl | rfl | rfl
                · have CM : Aside0 (∀ W, Calls Tryz.prog 79 #[.agg (nums .u32 (eightSteps (pm s 16) r vr 0)).toArray, .int .i64 0, .int .i64 4, .int .i64 8, .int .i64 12, .int .u32 m0, .int .u32 m1] W fun e w' => e = .returned (.agg (nums .u32 (eightSteps (pm s 16) r vr (0 + 1))).toArray) ∧ Below W.heap.size W w') := ⟨fun W => by
                    have z := rmix_calls 0 4 8 12 m0 m1 W HLV.out (by decide) (by decide) (by decide) (by decide) (by decide) (by decide) (by decide) (by decide) (by decide) (by decide)
                    rw [M0.out, M1.out, ← es0] at z
                    rw [M0.out, M1.out]
                    exact z⟩
                  have HLS := Aside0.mk (eightSteps_len (pm s 16) r vlr.out (0 + 1))
                  go_wp2_with (first | (refine wpList_load_row rfl 104 (.tmp 9) rfl (w.heap.size + 1 + 1) rfl 104 _ (0, 0) _ XD.out.bv Tryz.underlying104 rfl (by rw [List.size_toArray, nums_length, HLV.out]; kernel_rfl) ?_) | ((with_reducible refine (CM.out _).mono ?_); rintro e w4 ⟨rfl, hb⟩; have XE := Aside0.mk (XD.out.far hb); clear hb) | (refine wpList_store_row rfl 104 (.tmp 9) (.tmp 127) rfl (w.heap.size + 1 + 1) _ rfl rfl 104 _ XE.out.bv (by rw [List.size_toArray, nums_length, HLS.out]; kernel_rfl) (by rw [List.size_toArray, nums_length, List.size_toArray, nums_length, HLV.out, HLS.out]) (nums_all32 _) ?_))
                  have XF := Aside0.mk (XE.out.rowv (eightSteps (pm s 16) r vr (0 + 1)))
                  go_roundg 7
                  case measure => have := hi.out; omega
                  case rel => exact ⟨0 + 1, by go_num, ⟨by have := hi.out; omega⟩, XF⟩
                · have CM : Aside0 (∀ W, Calls Tryz.prog 79 #[.agg (nums .u32 (eightSteps (pm s 16) r vr 1)).toArray, .int .i64 1, .int .i64 5, .int .i64 9, .int .i64 13, .int .u32 m0, .int .u32 m1] W fun e w' => e = .returned (.agg (nums .u32 (eightSteps (pm s 16) r vr (1 + 1))).toArray) ∧ Below W.heap.size W w') := ⟨fun W => by
                    have z := rmix_calls 1 5 9 13 m0 m1 W HLV.out (by decide) (by decide) (by decide) (by decide) (by decide) (by decide) (by decide) (by decide) (by decide) (by decide)
                    rw [M0.out, M1.out, ← es1] at z
                    rw [M0.out, M1.out]
                    exact z⟩
                  have HLS := Aside0.mk (eightSteps_len (pm s 16) r vlr.out (1 + 1))
                  go_wp2_with (first | (refine wpList_load_row rfl 104 (.tmp 9) rfl (w.heap.size + 1 + 1) rfl 104 _ (0, 0) _ XD.out.bv Tryz.underlying104 rfl (by rw [List.size_toArray, nums_length, HLV.out]; kernel_rfl) ?_) | ((with_reducible refine (CM.out _).mono ?_); rintro e w4 ⟨rfl, hb⟩; have XE := Aside0.mk (XD.out.far hb); clear hb) | (refine wpList_store_row rfl 104 (.tmp 9) (.tmp 127) rfl (w.heap.size + 1 + 1) _ rfl rfl 104 _ XE.out.bv (by rw [List.size_toArray, nums_length, HLS.out]; kernel_rfl) (by rw [List.size_toArray, nums_length, List.size_toArray, nums_length, HLV.out, HLS.out]) (nums_all32 _) ?_))
                  have XF := Aside0.mk (XE.out.rowv (eightSteps (pm s 16) r vr (1 + 1)))
                  go_roundg 6
                  case measure => have := hi.out; omega
                  case rel => exact ⟨1 + 1, by go_num, ⟨by have := hi.out; omega⟩, XF⟩
                · have CM : Aside0 (∀ W, Calls Tryz.prog 79 #[.agg (nums .u32 (eightSteps (pm s 16) r vr 2)).toArray, .int .i64 2, .int .i64 6, .int .i64 10, .int .i64 14, .int .u32 m0, .int .u32 m1] W fun e w' => e = .returned (.agg (nums .u32 (eightSteps (pm s 16) r vr (2 + 1))).toArray) ∧ Below W.heap.size W w') := ⟨fun W => by
                    have z := rmix_calls 2 6 10 14 m0 m1 W HLV.out (by decide) (by decide) (by decide) (by decide) (by decide) (by decide) (by decide) (by decide) (by decide) (by decide)
                    rw [M0.out, M1.out, ← es2] at z
                    rw [M0.out, M1.out]
                    exact z⟩
                  have HLS := Aside0.mk (eightSteps_len (pm s 16) r vlr.out (2 + 1))
                  go_wp2_with (first | (refine wpList_load_row rfl 104 (.tmp 9) rfl (w.heap.size + 1 + 1) rfl 104 _ (0, 0) _ XD.out.bv Tryz.underlying104 rfl (by rw [List.size_toArray, nums_length, HLV.out]; kernel_rfl) ?_) | ((with_reducible refine (CM.out _).mono ?_); rintro e w4 ⟨rfl, hb⟩; have XE := Aside0.mk (XD.out.far hb); clear hb) | (refine wpList_store_row rfl 104 (.tmp 9) (.tmp 127) rfl (w.heap.size + 1 + 1) _ rfl rfl 104 _ XE.out.bv (by rw [List.size_toArray, nums_length, HLS.out]; kernel_rfl) (by rw [List.size_toArray, nums_length, List.size_toArray, nums_length, HLV.out, HLS.out]) (nums_all32 _) ?_))
                  have XF := Aside0.mk (XE.out.rowv (eightSteps (pm s 16) r vr (2 + 1)))
                  go_roundg 5
                  case measure => have := hi.out; omega
                  case rel => exact ⟨2 + 1, by go_num, ⟨by have := hi.out; omega⟩, XF⟩
                · have CM : Aside0 (∀ W, Calls Tryz.prog 79 #[.agg (nums .u32 (eightSteps (pm s 16) r vr 3)).toArray, .int .i64 3, .int .i64 7, .int .i64 11, .int .i64 15, .int .u32 m0, .int .u32 m1] W fun e w' => e = .returned (.agg (nums .u32 (eightSteps (pm s 16) r vr (3 + 1))).toArray) ∧ Below W.heap.size W w') := ⟨fun W => by
                    have z := rmix_calls 3 7 11 15 m0 m1 W HLV.out (by decide) (by decide) (by decide) (by decide) (by decide) (by decide) (by decide) (by decide) (by decide) (by decide)
                    rw [M0.out, M1.out, ← es3] at z
                    rw [M0.out, M1.out]
                    exact z⟩
                  have HLS := Aside0.mk (eightSteps_len (pm s 16) r vlr.out (3 + 1))
                  go_wp2_with (first | (refine wpList_load_row rfl 104 (.tmp 9) rfl (w.heap.size + 1 + 1) rfl 104 _ (0, 0) _ XD.out.bv Tryz.underlying104 rfl (by rw [List.size_toArray, nums_length, HLV.out]; kernel_rfl) ?_) | ((with_reducible refine (CM.out _).mono ?_); rintro e w4 ⟨rfl, hb⟩; have XE := Aside0.mk (XD.out.far hb); clear hb) | (refine wpList_store_row rfl 104 (.tmp 9) (.tmp 127) rfl (w.heap.size + 1 + 1) _ rfl rfl 104 _ XE.out.bv (by rw [List.size_toArray, nums_length, HLS.out]; kernel_rfl) (by rw [List.size_toArray, nums_length, List.size_toArray, nums_length, HLV.out, HLS.out]) (nums_all32 _) ?_))
                  have XF := Aside0.mk (XE.out.rowv (eightSteps (pm s 16) r vr (3 + 1)))
                  go_roundg 4
                  case measure => have := hi.out; omega
                  case rel => exact ⟨3 + 1, by go_num, ⟨by have := hi.out; omega⟩, XF⟩
                · have CM : Aside0 (∀ W, Calls Tryz.prog 79 #[.agg (nums .u32 (eightSteps (pm s 16) r vr 4)).toArray, .int .i64 0, .int .i64 5, .int .i64 10, .int .i64 15, .int .u32 m0, .int .u32 m1] W fun e w' => e = .returned (.agg (nums .u32 (eightSteps (pm s 16) r vr (4 + 1))).toArray) ∧ Below W.heap.size W w') := ⟨fun W => by
                    have z := rmix_calls 0 5 10 15 m0 m1 W HLV.out (by decide) (by decide) (by decide) (by decide) (by decide) (by decide) (by decide) (by decide) (by decide) (by decide)
                    rw [M0.out, M1.out, ← es4] at z
                    rw [M0.out, M1.out]
                    exact z⟩
                  have HLS := Aside0.mk (eightSteps_len (pm s 16) r vlr.out (4 + 1))
                  go_wp2_with (first | (refine wpList_load_row rfl 104 (.tmp 9) rfl (w.heap.size + 1 + 1) rfl 104 _ (0, 0) _ XD.out.bv Tryz.underlying104 rfl (by rw [List.size_toArray, nums_length, HLV.out]; kernel_rfl) ?_) | ((with_reducible refine (CM.out _).mono ?_); rintro e w4 ⟨rfl, hb⟩; have XE := Aside0.mk (XD.out.far hb); clear hb) | (refine wpList_store_row rfl 104 (.tmp 9) (.tmp 146) rfl (w.heap.size + 1 + 1) _ rfl rfl 104 _ XE.out.bv (by rw [List.size_toArray, nums_length, HLS.out]; kernel_rfl) (by rw [List.size_toArray, nums_length, List.size_toArray, nums_length, HLV.out, HLS.out]) (nums_all32 _) ?_))
                  have XF := Aside0.mk (XE.out.rowv (eightSteps (pm s 16) r vr (4 + 1)))
                  go_roundg 3
                  case measure => have := hi.out; omega
                  case rel => exact ⟨4 + 1, by go_num, ⟨by have := hi.out; omega⟩, XF⟩
                · have CM : Aside0 (∀ W, Calls Tryz.prog 79 #[.agg (nums .u32 (eightSteps (pm s 16) r vr 5)).toArray, .int .i64 1, .int .i64 6, .int .i64 11, .int .i64 12, .int .u32 m0, .int .u32 m1] W fun e w' => e = .returned (.agg (nums .u32 (eightSteps (pm s 16) r vr (5 + 1))).toArray) ∧ Below W.heap.size W w') := ⟨fun W => by
                    have z := rmix_calls 1 6 11 12 m0 m1 W HLV.out (by decide) (by decide) (by decide) (by decide) (by decide) (by decide) (by decide) (by decide) (by decide) (by decide)
                    rw [M0.out, M1.out, ← es5] at z
                    rw [M0.out, M1.out]
                    exact z⟩
                  have HLS := Aside0.mk (eightSteps_len (pm s 16) r vlr.out (5 + 1))
                  go_wp2_with (first | (refine wpList_load_row rfl 104 (.tmp 9) rfl (w.heap.size + 1 + 1) rfl 104 _ (0, 0) _ XD.out.bv Tryz.underlying104 rfl (by rw [List.size_toArray, nums_length, HLV.out]; kernel_rfl) ?_) | ((with_reducible refine (CM.out _).mono ?_); rintro e w4 ⟨rfl, hb⟩; have XE := Aside0.mk (XD.out.far hb); clear hb) | (refine wpList_store_row rfl 104 (.tmp 9) (.tmp 146) rfl (w.heap.size + 1 + 1) _ rfl rfl 104 _ XE.out.bv (by rw [List.size_toArray, nums_length, HLS.out]; kernel_rfl) (by rw [List.size_toArray, nums_length, List.size_toArray, nums_length, HLV.out, HLS.out]) (nums_all32 _) ?_))
                  have XF := Aside0.mk (XE.out.rowv (eightSteps (pm s 16) r vr (5 + 1)))
                  go_roundg 2
                  case measure => have := hi.out; omega
                  case rel => exact ⟨5 + 1, by go_num, ⟨by have := hi.out; omega⟩, XF⟩
                · have CM : Aside0 (∀ W, Calls Tryz.prog 79 #[.agg (nums .u32 (eightSteps (pm s 16) r vr 6)).toArray, .int .i64 2, .int .i64 7, .int .i64 8, .int .i64 13, .int .u32 m0, .int .u32 m1] W fun e w' => e = .returned (.agg (nums .u32 (eightSteps (pm s 16) r vr (6 + 1))).toArray) ∧ Below W.heap.size W w') := ⟨fun W => by
                    have z := rmix_calls 2 7 8 13 m0 m1 W HLV.out (by decide) (by decide) (by decide) (by decide) (by decide) (by decide) (by decide) (by decide) (by decide) (by decide)
                    rw [M0.out, M1.out, ← es6] at z
                    rw [M0.out, M1.out]
                    exact z⟩
                  have HLS := Aside0.mk (eightSteps_len (pm s 16) r vlr.out (6 + 1))
                  go_wp2_with (first | (refine wpList_load_row rfl 104 (.tmp 9) rfl (w.heap.size + 1 + 1) rfl 104 _ (0, 0) _ XD.out.bv Tryz.underlying104 rfl (by rw [List.size_toArray, nums_length, HLV.out]; kernel_rfl) ?_) | ((with_reducible refine (CM.out _).mono ?_); rintro e w4 ⟨rfl, hb⟩; have XE := Aside0.mk (XD.out.far hb); clear hb) | (refine wpList_store_row rfl 104 (.tmp 9) (.tmp 146) rfl (w.heap.size + 1 + 1) _ rfl rfl 104 _ XE.out.bv (by rw [List.size_toArray, nums_length, HLS.out]; kernel_rfl) (by rw [List.size_toArray, nums_length, List.size_toArray, nums_length, HLV.out, HLS.out]) (nums_all32 _) ?_))
                  have XF := Aside0.mk (XE.out.rowv (eightSteps (pm s 16) r vr (6 + 1)))
                  go_roundg 1
                  case measure => have := hi.out; omega
                  case rel => exact ⟨6 + 1, by go_num, ⟨by have := hi.out; omega⟩, XF⟩
                · have CM : Aside0 (∀ W, Calls Tryz.prog 79 #[.agg (nums .u32 (eightSteps (pm s 16) r vr 7)).toArray, .int .i64 3, .int .i64 4, .int .i64 9, .int .i64 14, .int .u32 m0, .int .u32 m1] W fun e w' => e = .returned (.agg (nums .u32 (eightSteps (pm s 16) r vr (7 + 1))).toArray) ∧ Below W.heap.size W w') := ⟨fun W => by
                    have z := rmix_calls 3 4 9 14 m0 m1 W HLV.out (by decide) (by decide) (by decide) (by decide) (by decide) (by decide) (by decide) (by decide) (by decide) (by decide)
                    rw [M0.out, M1.out, ← es7] at z
                    rw [M0.out, M1.out]
                    exact z⟩
                  have HLS := Aside0.mk (eightSteps_len (pm s 16) r vlr.out (7 + 1))
                  go_wp2_with (first | (refine wpList_load_row rfl 104 (.tmp 9) rfl (w.heap.size + 1 + 1) rfl 104 _ (0, 0) _ XD.out.bv Tryz.underlying104 rfl (by rw [List.size_toArray, nums_length, HLV.out]; kernel_rfl) ?_) | ((with_reducible refine (CM.out _).mono ?_); rintro e w4 ⟨rfl, hb⟩; have XE := Aside0.mk (XD.out.far hb); clear hb) | (refine wpList_store_row rfl 104 (.tmp 9) (.tmp 146) rfl (w.heap.size + 1 + 1) _ rfl rfl 104 _ XE.out.bv (by rw [List.size_toArray, nums_length, HLS.out]; kernel_rfl) (by rw [List.size_toArray, nums_length, List.size_toArray, nums_length, HLV.out, HLS.out]) (nums_all32 _) ?_))
                  have XF := Aside0.mk (XE.out.rowv (eightSteps (pm s 16) r vr (7 + 1)))
                  go_roundg 0
                  case measure => have := hi.out; omega
                  case rel => exact ⟨7 + 1, by go_num, ⟨by have := hi.out; omega⟩, XF⟩
              · obtain rfl : i = 8 := by have := hi.out; omega
                clear hi8 hi
                have X : Aside0 (R9 w wr gf h (rounds (pm s 16) v0 (r + 1)) (pm s 16)) := by
                  have z := X.out
                  rw [HVR.out] at z
                  exact ⟨z⟩
                go_wp2_with fail
                go_roundg (9 - r)
                case measure => have := hr.out; omega
                case rel => exact ⟨r + 1, by go_num, ⟨by have := hr.out; omega⟩, X⟩
          · obtain rfl : r = 10 := by have := hr.out; omega
            clear hr10 hr
            have vlf := Aside0.mk (rounds_len (pm s 16) vl0.out 10)
            obtain ⟨vf, hvf⟩ : ∃ vf, vf = rounds (pm s 16) v0 10 := ⟨_, rfl⟩
            have e : finL h vf 8 = takeL h s n last := by rw [hvf, HV0.out]; rfl
            rw [← hvf] at X vlf
            have HE := Aside0.mk e
            clear hvf e HV0
            have X : Aside0 (R9 w wr gf (finL h vf 0) vf (pm s 16)) := by rw [finL_zero HH.out]; exact X
            go_wp2_with fail
            go_loopg [19] 8 (fun gk v19 wk => ∃ k : Nat, v19 = .int .i64 k ∧ Aside0 (k + gk = 8) ∧ Aside0 (R9 w wk gf (finL h vf k) vf (pm s 16)))
            case atStart => exact ⟨0, rfl, ⟨rfl⟩, X⟩
            case round =>
              clear X
              obtain ⟨k, rfl, hk, XK⟩ := hrel
              by_cases hk8 : k < 8
              · have q1 : wr.cell? ⟨w.heap.size, k, none⟩ = some (.int .u32 (h.getD k 0)) := by
                  rw [← finL_at h vf k hk8]
                  exact (XK.out.b0.cell k).trans (nums_get (by rw [finL_len]; exact hk8))
                have q2 : wr.cell? ⟨w.heap.size + 1 + 1, k, none⟩ = some (.int .u32 (vf.getD k 0)) := (XK.out.bv.cell k).trans (nums_get (by rw [vlf.out]; omega))
                have q3 : wr.cell? ⟨w.heap.size + 1 + 1, k + 8, none⟩ = some (.int .u32 (vf.getD (k + 8) 0)) := (XK.out.bv.cell (k + 8)).trans (nums_get (by rw [vlf.out]; omega))
                have f1 := XK.out.b0.frozen k
                have XS := (XK.out.seth k (Go.bits .xor .u32 (h.getD k 0) (Go.bits .xor .u32 (vf.getD k 0) (vf.getD (k + 8) 0)))).drew
                rw [finL_set h vf k hk8, ← xor_assoc'] at XS
                have XS := Aside0.mk XS
                generalize h.getD k 0 = yh at q1 XS
                generalize vf.getD k 0 = yv at q2 XS
                generalize vf.getD (k + 8) 0 = yw at q3 XS
                have b1 := eq_true (show (k : Int) < 8 by omega)
                have b2 := eq_true (show (k : Int) < 16 by omega)
                have b3 := eq_true (show (k : Int) + 8 < 16 by omega)
                have b4 := eq_true (show (0 : Int) ≤ (k : Int) + 8 by omega)
                have b5 : ((k : Int) + 8).toNat = k + 8 := by omega
                have b6 : IntKind.i64.wrap ((k : Int) + 8) = (k : Int) + 8 := IntWalk.i64_in _ (by omega)
                go_wp2_with fail
                go_still_tail 14, (by kernel_rfl)
                go_wp2_with fail
                go_roundg (7 - k)
                case measure => have := hk.out; omega
                case rel => exact ⟨k + 1, by go_num, ⟨by have := hk.out; omega⟩, XS⟩
              · obtain rfl : k = 8 := by have := hk.out; omega
                clear hk8 hk
                rw [HE.out] at XK
                have TL := Aside0.mk (takeL_len h s n last)
                have B0 := Aside0.mk XK.out.b0
                have B1 := Aside0.mk XK.out.b1
                go_wp2_with (first | (refine wpList_load_row rfl 89 (.tmp 4) rfl w.heap.size rfl 89 _ (0, 0) _ B0.out Tryz.underlying89 rfl (by rw [List.size_toArray, nums_length, TL.out]; kernel_rfl) ?_) | (refine wpList_store_row rfl 89 (.tmp 8) (.tmp 165) rfl (w.heap.size + 1) _ rfl rfl 89 _ B1.out (by rw [List.size_toArray, nums_length, TL.out]; kernel_rfl) (by rw [List.size_toArray, nums_length, List.size_toArray, nums_length, TL.out]; rfl) (nums_all32 _) ?_))
                exact bodyPost_ret (results_cell_row (p := 8) (ty := 89) rfl _ _ (w.heap.size + 1) 89 _ (0, 0) _ rfl (B1.out.setRow_ _) Tryz.underlying89 rfl (by rw [List.size_toArray, nums_length, TL.out]; kernel_rfl)) rfl ⟨rfl, below_setRow' XK.out.below (by omega) _⟩
end Go.Proofs.YtoljjgabgdifbaaGreatDoor.H

