/- Layer 2 of the program: a mixing. A contract of the shelf (strings.IndexByte). -/
import Derived.Test.YtoljjgabgdifbaaGreatDoorZbPH0toH2d
import Derived.Shelf.Small.Strs
import Derived.Test.YtoljjgabgdifbaaGreatDoorProg

namespace Go.Proofs.YtoljjgabgdifbaaGreatDoor.H
open Go.RowKit Go.Proofs.YtoljjgabgdifbaaGreatDoorW.PrintWords Go.Proofs.YtoljjgabgdifbaaGreatDoorW.PrintLast
set_option linter.unusedVariables false
set_option linter.unusedSimpArgs false

def halfL (vs : List Int) (a b c d : Nat) (n p q p' q' : Int) : List Int :=
  (((vs.set a (hA (vs.getD a 0) (vs.getD b 0) n)).set d (hD (vs.getD a 0) (vs.getD b 0) (vs.getD d 0) n p q)).set c (hC (vs.getD a 0) (vs.getD b 0) (vs.getD c 0) (vs.getD d 0) n p q)).set b
    (hB (vs.getD a 0) (vs.getD b 0) (vs.getD c 0) (vs.getD d 0) n p q p' q')
def mixL (vs : List Int) (a b c d : Nat) (x y : Int) : List Int := halfL (halfL vs a b c d x 65536 65536 1048576 4096) a b c d y 16777216 256 33554432 128

theorem nums_set (vs : List Int) (i : Nat) (y : Int) : (nums .u32 vs).toArray.setIfInBounds i (.int .u32 y) = (nums .u32 (vs.set i y)).toArray := by
  simp [nums, List.map_set]
theorem nums_get {vs : List Int} {i : Nat} (h : i < vs.length) : (nums .u32 vs).toArray[i]? = some (.int .u32 (vs.getD i 0)) := by
  simp [nums, List.getElem?_map, List.getElem?_eq_getElem h, List.getD_eq_getElem?_getD]

/-- Behind a mixing: block g has these numbers; beside it, and what is new, nothing has turned. -/
structure MixPost (w w' : World) (g : Nat) (vs : List Int) : Prop where
  blk : Blk w' g 104 (nums .u32 vs).toArray
  len : vs.length = 16
  far : w.grownBy w' (some g)

theorem Blk.half {w : World} {g a b c d : Nat} {vs : List Int} {n p q p' q' : Int} (h : Blk w g 104 (nums .u32 vs).toArray) :
    Blk (halfW w g a b c d (vs.getD a 0) (vs.getD b 0) (vs.getD c 0) (vs.getD d 0) n p q p' q') g 104 (nums .u32 (halfL vs a b c d n p q p' q')).toArray := by
  unfold halfW halfL
  have s1 := h.set_ a (.int .u32 (hA (vs.getD a 0) (vs.getD b 0) n))
  rw [nums_set] at s1
  have s2 := s1.drew.set_ d (.int .u32 (hD (vs.getD a 0) (vs.getD b 0) (vs.getD d 0) n p q))
  rw [nums_set] at s2
  have s3 := s2.drew.set_ c (.int .u32 (hC (vs.getD a 0) (vs.getD b 0) (vs.getD c 0) (vs.getD d 0) n p q))
  rw [nums_set] at s3
  have s4 := s3.drew.set_ b (.int .u32 (hB (vs.getD a 0) (vs.getD b 0) (vs.getD c 0) (vs.getD d 0) n p q p' q'))
  rw [nums_set] at s4
  exact s4.drew
theorem grown_drew {w w' : World} {row : Option Nat} (h : w.grownBy w' row) : w.grownBy w'.drew row := ⟨h.os, h.tape, h.output, h.size, h.block⟩
theorem grown_set {w w' : World} {g i : Nat} {v : Value} (h : w.grownBy w' (some g)) : w.grownBy (w'.setCell ⟨g, i, none⟩ v) (some g) :=
  ⟨h.os, h.tape, h.output, by simpa [World.setCell] using h.size, fun j hj hne => (Below.heap_setCell w' ⟨g, i, none⟩ v j (fun e => hne (by rw [e]))).trans (h.block j hj hne)⟩
theorem half_grown (w : World) (g a b c d : Nat) (xa xb xc xd n p q p' q' : Int) : w.grownBy (halfW w g a b c d xa xb xc xd n p q p' q') (some g) := by
  unfold halfW
  exact grown_drew (grown_set (grown_drew (grown_set (grown_drew (grown_set (grown_drew (grown_set (World.grownBy.refl w _))))))))
theorem halfL_len {vs : List Int} (h : vs.length = 16) (a b c d : Nat) (n p q p' q' : Int) : (halfL vs a b c d n p q p' q').length = 16 := by simp [halfL, h]

theorem HF.of {w : World} {g pv pa pb pc pd a b c d : Nat} {vs : List Int} (h : Blk w g 104 (nums .u32 vs).toArray) (hl : vs.length = 16) (la : a < 16) (lb : b < 16) (lc : c < 16) (ld : d < 16)
    (hv : w.cell? ⟨pv, 0, none⟩ = some (.pointer (some ⟨g, 0, none⟩))) (ha : w.cell? ⟨pa, 0, none⟩ = some (.int .i64 a)) (hb : w.cell? ⟨pb, 0, none⟩ = some (.int .i64 b))
    (hc : w.cell? ⟨pc, 0, none⟩ = some (.int .i64 c)) (hd : w.cell? ⟨pd, 0, none⟩ = some (.int .i64 d)) :
    HF w g pv pa pb pc pd a b c d (vs.getD a 0) (vs.getD b 0) (vs.getD c 0) (vs.getD d 0) :=
  ⟨hv, ha, hb, hc, hd, (h.cell a).trans (nums_get (by omega)), (h.cell b).trans (nums_get (by omega)), (h.cell c).trans (nums_get (by omega)), (h.cell d).trans (nums_get (by omega)), h.frozen a, h.frozen b, h.frozen c, h.frozen d⟩

/-- Behind half of a mixing the other one may follow. -/
theorem half_post {w : World} {g pv pa pb pc pd a b c d : Nat} {vs : List Int} {n p q p' q' : Int} (H : HF w g pv pa pb pc pd a b c d (vs.getD a 0) (vs.getD b 0) (vs.getD c 0) (vs.getD d 0))
    (h : Blk w g 104 (nums .u32 vs).toArray) (hl : vs.length = 16) (n1 : pv ≠ g) (n2 : pa ≠ g) (n3 : pb ≠ g) (n4 : pc ≠ g) (n5 : pd ≠ g)
    (ab : a ≠ b) (ac : a ≠ c) (ad : a ≠ d) (bc : b ≠ c) (bd : b ≠ d) (cd : c ≠ d) (la : a < 16 := by decide) (lb : b < 16 := by decide) (lc : c < 16 := by decide) (ld : d < 16 := by decide) :
    HF (halfW w g a b c d (vs.getD a 0) (vs.getD b 0) (vs.getD c 0) (vs.getD d 0) n p q p' q') g pv pa pb pc pd a b c d ((halfL vs a b c d n p q p' q').getD a 0) ((halfL vs a b c d n p q p' q').getD b 0)
        ((halfL vs a b c d n p q p' q').getD c 0) ((halfL vs a b c d n p q p' q').getD d 0) ∧
      Blk (halfW w g a b c d (vs.getD a 0) (vs.getD b 0) (vs.getD c 0) (vs.getD d 0) n p q p' q') g 104 (nums .u32 (halfL vs a b c d n p q p' q')).toArray ∧
      w.grownBy (halfW w g a b c d (vs.getD a 0) (vs.getD b 0) (vs.getD c 0) (vs.getD d 0) n p q p' q') (some g) ∧ (halfL vs a b c d n p q p' q').length = 16 := by
  have B := h.half (a := a) (b := b) (c := c) (d := d) (n := n) (p := p) (q := q) (p' := p') (q' := q')
  have L := halfL_len hl a b c d n p q p' q'
  have R := (((H.set_a n1 n2 n3 n4 n5 (hA (vs.getD a 0) (vs.getD b 0) n) (Ne.symm ab) (Ne.symm ac) (Ne.symm ad)).set_d n1 n2 n3 n4 n5 (hD (vs.getD a 0) (vs.getD b 0) (vs.getD d 0) n p q) ad bd cd).set_c n1 n2 n3 n4 n5 (hC (vs.getD a 0) (vs.getD b 0) (vs.getD c 0) (vs.getD d 0) n p q) ac bc (Ne.symm cd)).set_b n1 n2 n3 n4 n5
    (hB (vs.getD a 0) (vs.getD b 0) (vs.getD c 0) (vs.getD d 0) n p q p' q') ab (Ne.symm bc) (Ne.symm bd)
  exact ⟨HF.of B L la lb lc ld R.hv R.ha R.hb R.hc R.hd, B, half_grown _ _ _ _ _ _ _ _ _ _ _ _ _ _ _, L⟩

/-- The world with a mixing's five boxes. -/
@[reducible] def Boxes (w : World) (g : Nat) (a b c d : Int) : World :=
  ((((w.alloc (.cells #[.pointer (some ⟨g, 0, none⟩)] 109)).alloc (.cells #[.int .i64 a] 3)).alloc (.cells #[.int .i64 b] 3)).alloc (.cells #[.int .i64 c] 3)).alloc (.cells #[.int .i64 d] 3)
theorem Boxes.blk {w : World} {g : Nat} {t : TypeId} {cs : Array Value} (h : Blk w g t cs) (a b c d : Int) : Blk (Boxes w g a b c d) g t cs := ((((h.alloc _).alloc _).alloc _).alloc _).alloc _
theorem Boxes.c0 (w : World) (g : Nat) (a b c d : Int) : (Boxes w g a b c d).cell? ⟨w.heap.size, 0, none⟩ = some (.pointer (some ⟨g, 0, none⟩)) :=
  (((((Blk.new w _ _).alloc _).alloc _).alloc _).alloc _).cell 0
theorem sz (w : World) (o : Obj) : (w.alloc o).heap.size = w.heap.size + 1 := by
  show (w.heap.push o).size = _
  simp
theorem Boxes.c1 (w : World) (g : Nat) (a b c d : Int) : (Boxes w g a b c d).cell? ⟨w.heap.size + 1, 0, none⟩ = some (.int .i64 a) := by
  have h := ((((Blk.new (w.alloc (.cells #[.pointer (some ⟨g, 0, none⟩)] 109)) 3 #[.int .i64 a]).alloc (.cells #[.int .i64 b] 3)).alloc (.cells #[.int .i64 c] 3)).alloc (.cells #[.int .i64 d] 3)).cell 0
  rw [sz] at h
  exact h
theorem Boxes.c2 (w : World) (g : Nat) (a b c d : Int) : (Boxes w g a b c d).cell? ⟨w.heap.size + 2, 0, none⟩ = some (.int .i64 b) := by
  have h := (((Blk.new ((w.alloc (.cells #[.pointer (some ⟨g, 0, none⟩)] 109)).alloc (.cells #[.int .i64 a] 3)) 3 #[.int .i64 b]).alloc (.cells #[.int .i64 c] 3)).alloc (.cells #[.int .i64 d] 3)).cell 0
  rw [sz, sz] at h
  exact h
theorem Boxes.c3 (w : World) (g : Nat) (a b c d : Int) : (Boxes w g a b c d).cell? ⟨w.heap.size + 3, 0, none⟩ = some (.int .i64 c) := by
  have h := ((Blk.new (((w.alloc (.cells #[.pointer (some ⟨g, 0, none⟩)] 109)).alloc (.cells #[.int .i64 a] 3)).alloc (.cells #[.int .i64 b] 3)) 3 #[.int .i64 c]).alloc (.cells #[.int .i64 d] 3)).cell 0
  rw [sz, sz, sz] at h
  exact h
theorem Boxes.c4 (w : World) (g : Nat) (a b c d : Int) : (Boxes w g a b c d).cell? ⟨w.heap.size + 4, 0, none⟩ = some (.int .i64 d) := by
  have h := (Blk.new ((((w.alloc (.cells #[.pointer (some ⟨g, 0, none⟩)] 109)).alloc (.cells #[.int .i64 a] 3)).alloc (.cells #[.int .i64 b] 3)).alloc (.cells #[.int .i64 c] 3)) 3 #[.int .i64 d]).cell 0
  rw [sz, sz, sz, sz] at h
  exact h
theorem grown_alloc {w w' : World} {row : Option Nat} (h : w.grownBy w' row) (o : Obj) : w.grownBy (w'.alloc o) row :=
  ⟨h.os, h.tape, h.output, by rw [sz]; have := h.size; omega, fun j hj hne => (Below.heap_alloc w' o j (by have := h.size; omega)).trans (h.block j hj hne)⟩
theorem Boxes.grown (w : World) (g : Nat) (a b c d : Int) (row : Option Nat) : w.grownBy (Boxes w g a b c d) row :=
  grown_alloc (grown_alloc (grown_alloc (grown_alloc (grown_alloc (World.grownBy.refl w row) _) _) _) _) _

set_option maxRecDepth 100000 in
set_option maxHeartbeats 1000000 in
theorem mix_0_4 {g : Nat} {vs : List Int} (x y : Int) {w : World} (hg : Blk w g 104 (nums .u32 vs).toArray) (hl : vs.length = 16) :
    Calls Tryz.prog 62 #[.pointer (some ⟨g, 0, none⟩), .int .i64 0, .int .i64 4, .int .i64 8, .int .i64 12, .int .u32 x, .int .u32 y] w
      fun e w' => e = .returned (.tuple #[]) ∧ MixPost w w' g (mixL vs 0 4 8 12 x y) := by
  have hlt := hg.lt
  have H := HF.of (pv := w.heap.size) (pa := w.heap.size + 1) (pb := w.heap.size + 1 + 1) (pc := w.heap.size + 1 + 1 + 1) (pd := w.heap.size + 1 + 1 + 1 + 1) (Boxes.blk hg 0 4 8 12) hl (by decide) (by decide) (by decide) (by decide)
    (Boxes.c0 w g 0 4 8 12) (Boxes.c1 w g 0 4 8 12) (Boxes.c2 w g 0 4 8 12) (Boxes.c3 w g 0 4 8 12) (Boxes.c4 w g 0 4 8 12)
  have K := half_post (n := x) (p := 65536) (q := 65536) (p' := 1048576) (q' := 4096) H (Boxes.blk hg 0 4 8 12) hl (by omega) (by omega) (by omega) (by omega) (by omega) (by decide) (by decide) (by decide) (by decide) (by decide) (by decide)
  have K' := half_post (n := y) (p := 16777216) (q := 256) (p' := 33554432) (q' := 128) K.1 K.2.1 K.2.2.2 (by omega) (by omega) (by omega) (by omega) (by omega) (by decide) (by decide) (by decide) (by decide) (by decide) (by decide)
  have c1 := (half_0_4_0 x H (by omega) (by omega) (by omega) (by omega) (by omega))
  have c2 := (half_0_4_1 y K.1 (by omega) (by omega) (by omega) (by omega) (by omega))
  obtain ⟨w1, hw1⟩ : ∃ W, W = halfW (Boxes w g 0 4 8 12) g 0 4 8 12 (vs.getD 0 0) (vs.getD 4 0) (vs.getD 8 0) (vs.getD 12 0) x 65536 65536 1048576 4096 := ⟨_, rfl⟩
  rw [← hw1] at K K' c1 c2
  obtain ⟨w2, hw2⟩ : ∃ W, W = halfW w1 g 0 4 8 12 ((halfL vs 0 4 8 12 x 65536 65536 1048576 4096).getD 0 0) ((halfL vs 0 4 8 12 x 65536 65536 1048576 4096).getD 4 0) ((halfL vs 0 4 8 12 x 65536 65536 1048576 4096).getD 8 0) ((halfL vs 0 4 8 12 x 65536 65536 1048576 4096).getD 12 0) y 16777216 256 33554432 128 := ⟨_, rfl⟩
  rw [← hw2] at K' c2
  clear hw1 hw2
  have c1 := Aside0.mk c1
  have c2 := Aside0.mk c2
  have HG := Aside0.mk (Boxes.grown w g 0 4 8 12 (some g))
  have K := Aside0.mk K
  have K' := Aside0.mk K'
  clear hl hg hlt
  clear H
  go_enter Tryz.func62, Tryz.ntmps62
  go_wp2_with fail
  with_reducible refine c1.out.mono ?_
  rintro e w' ⟨rfl, hw⟩
  subst hw
  go_wp2_with fail
  with_reducible refine c2.out.mono ?_
  rintro e w' ⟨rfl, hw⟩
  subst hw
  go_wp2_with fail
  go_end0
  have k := K.out
  have k' := K'.out
  exact ⟨rfl, k'.2.1, k'.2.2.2, (HG.out.trans k.2.2.1).trans k'.2.2.1⟩
set_option maxRecDepth 100000 in
set_option maxHeartbeats 1000000 in
theorem mix_1_5 {g : Nat} {vs : List Int} (x y : Int) {w : World} (hg : Blk w g 104 (nums .u32 vs).toArray) (hl : vs.length = 16) :
    Calls Tryz.prog 62 #[.pointer (some ⟨g, 0, none⟩), .int .i64 1, .int .i64 5, .int .i64 9, .int .i64 13, .int .u32 x, .int .u32 y] w
      fun e w' => e = .returned (.tuple #[]) ∧ MixPost w w' g (mixL vs 1 5 9 13 x y) := by
  have hlt := hg.lt
  have H := HF.of (pv := w.heap.size) (pa := w.heap.size + 1) (pb := w.heap.size + 1 + 1) (pc := w.heap.size + 1 + 1 + 1) (pd := w.heap.size + 1 + 1 + 1 + 1) (Boxes.blk hg 1 5 9 13) hl (by decide) (by decide) (by decide) (by decide)
    (Boxes.c0 w g 1 5 9 13) (Boxes.c1 w g 1 5 9 13) (Boxes.c2 w g 1 5 9 13) (Boxes.c3 w g 1 5 9 13) (Boxes.c4 w g 1 5 9 13)
  have K := half_post (n := x) (p := 65536) (q := 65536) (p' := 1048576) (q' := 4096) H (Boxes.blk hg 1 5 9 13) hl (by omega) (by omega) (by omega) (by omega) (by omega) (by decide) (by decide) (by decide) (by decide) (by decide) (by decide)
  have K' := half_post (n := y) (p := 16777216) (q := 256) (p' := 33554432) (q' := 128) K.1 K.2.1 K.2.2.2 (by omega) (by omega) (by omega) (by omega) (by omega) (by decide) (by decide) (by decide) (by decide) (by decide) (by decide)
  have c1 := (half_1_5_0 x H (by omega) (by omega) (by omega) (by omega) (by omega))
  have c2 := (half_1_5_1 y K.1 (by omega) (by omega) (by omega) (by omega) (by omega))
  obtain ⟨w1, hw1⟩ : ∃ W, W = halfW (Boxes w g 1 5 9 13) g 1 5 9 13 (vs.getD 1 0) (vs.getD 5 0) (vs.getD 9 0) (vs.getD 13 0) x 65536 65536 1048576 4096 := ⟨_, rfl⟩
  rw [← hw1] at K K' c1 c2
  obtain ⟨w2, hw2⟩ : ∃ W, W = halfW w1 g 1 5 9 13 ((halfL vs 1 5 9 13 x 65536 65536 1048576 4096).getD 1 0) ((halfL vs 1 5 9 13 x 65536 65536 1048576 4096).getD 5 0) ((halfL vs 1 5 9 13 x 65536 65536 1048576 4096).getD 9 0) ((halfL vs 1 5 9 13 x 65536 65536 1048576 4096).getD 13 0) y 16777216 256 33554432 128 := ⟨_, rfl⟩
  rw [← hw2] at K' c2
  clear hw1 hw2
  have c1 := Aside0.mk c1
  have c2 := Aside0.mk c2
  have HG := Aside0.mk (Boxes.grown w g 1 5 9 13 (some g))
  have K := Aside0.mk K
  have K' := Aside0.mk K'
  clear hl hg hlt
  clear H
  go_enter Tryz.func62, Tryz.ntmps62
  go_wp2_with fail
  with_reducible refine c1.out.mono ?_
  rintro e w' ⟨rfl, hw⟩
  subst hw
  go_wp2_with fail
  with_reducible refine c2.out.mono ?_
  rintro e w' ⟨rfl, hw⟩
  subst hw
  go_wp2_with fail
  go_end0
  have k := K.out
  have k' := K'.out
  exact ⟨rfl, k'.2.1, k'.2.2.2, (HG.out.trans k.2.2.1).trans k'.2.2.1⟩
set_option maxRecDepth 100000 in
set_option maxHeartbeats 1000000 in
theorem mix_2_6 {g : Nat} {vs : List Int} (x y : Int) {w : World} (hg : Blk w g 104 (nums .u32 vs).toArray) (hl : vs.length = 16) :
    Calls Tryz.prog 62 #[.pointer (some ⟨g, 0, none⟩), .int .i64 2, .int .i64 6, .int .i64 10, .int .i64 14, .int .u32 x, .int .u32 y] w
      fun e w' => e = .returned (.tuple #[]) ∧ MixPost w w' g (mixL vs 2 6 10 14 x y) := by
  have hlt := hg.lt
  have H := HF.of (pv := w.heap.size) (pa := w.heap.size + 1) (pb := w.heap.size + 1 + 1) (pc := w.heap.size + 1 + 1 + 1) (pd := w.heap.size + 1 + 1 + 1 + 1) (Boxes.blk hg 2 6 10 14) hl (by decide) (by decide) (by decide) (by decide)
    (Boxes.c0 w g 2 6 10 14) (Boxes.c1 w g 2 6 10 14) (Boxes.c2 w g 2 6 10 14) (Boxes.c3 w g 2 6 10 14) (Boxes.c4 w g 2 6 10 14)
  have K := half_post (n := x) (p := 65536) (q := 65536) (p' := 1048576) (q' := 4096) H (Boxes.blk hg 2 6 10 14) hl (by omega) (by omega) (by omega) (by omega) (by omega) (by decide) (by decide) (by decide) (by decide) (by decide) (by decide)
  have K' := half_post (n := y) (p := 16777216) (q := 256) (p' := 33554432) (q' := 128) K.1 K.2.1 K.2.2.2 (by omega) (by omega) (by omega) (by omega) (by omega) (by decide) (by decide) (by decide) (by decide) (by decide) (by decide)
  have c1 := (half_2_6_0 x H (by omega) (by omega) (by omega) (by omega) (by omega))
  have c2 := (half_2_6_1 y K.1 (by omega) (by omega) (by omega) (by omega) (by omega))
  obtain ⟨w1, hw1⟩ : ∃ W, W = halfW (Boxes w g 2 6 10 14) g 2 6 10 14 (vs.getD 2 0) (vs.getD 6 0) (vs.getD 10 0) (vs.getD 14 0) x 65536 65536 1048576 4096 := ⟨_, rfl⟩
  rw [← hw1] at K K' c1 c2
  obtain ⟨w2, hw2⟩ : ∃ W, W = halfW w1 g 2 6 10 14 ((halfL vs 2 6 10 14 x 65536 65536 1048576 4096).getD 2 0) ((halfL vs 2 6 10 14 x 65536 65536 1048576 4096).getD 6 0) ((halfL vs 2 6 10 14 x 65536 65536 1048576 4096).getD 10 0) ((halfL vs 2 6 10 14 x 65536 65536 1048576 4096).getD 14 0) y 16777216 256 33554432 128 := ⟨_, rfl⟩
  rw [← hw2] at K' c2
  clear hw1 hw2
  have c1 := Aside0.mk c1
  have c2 := Aside0.mk c2
  have HG := Aside0.mk (Boxes.grown w g 2 6 10 14 (some g))
  have K := Aside0.mk K
  have K' := Aside0.mk K'
  clear hl hg hlt
  clear H
  go_enter Tryz.func62, Tryz.ntmps62
  go_wp2_with fail
  with_reducible refine c1.out.mono ?_
  rintro e w' ⟨rfl, hw⟩
  subst hw
  go_wp2_with fail
  with_reducible refine c2.out.mono ?_
  rintro e w' ⟨rfl, hw⟩
  subst hw
  go_wp2_with fail
  go_end0
  have k := K.out
  have k' := K'.out
  exact ⟨rfl, k'.2.1, k'.2.2.2, (HG.out.trans k.2.2.1).trans k'.2.2.1⟩
set_option maxRecDepth 100000 in
set_option maxHeartbeats 1000000 in
theorem mix_3_7 {g : Nat} {vs : List Int} (x y : Int) {w : World} (hg : Blk w g 104 (nums .u32 vs).toArray) (hl : vs.length = 16) :
    Calls Tryz.prog 62 #[.pointer (some ⟨g, 0, none⟩), .int .i64 3, .int .i64 7, .int .i64 11, .int .i64 15, .int .u32 x, .int .u32 y] w
      fun e w' => e = .returned (.tuple #[]) ∧ MixPost w w' g (mixL vs 3 7 11 15 x y) := by
  have hlt := hg.lt
  have H := HF.of (pv := w.heap.size) (pa := w.heap.size + 1) (pb := w.heap.size + 1 + 1) (pc := w.heap.size + 1 + 1 + 1) (pd := w.heap.size + 1 + 1 + 1 + 1) (Boxes.blk hg 3 7 11 15) hl (by decide) (by decide) (by decide) (by decide)
    (Boxes.c0 w g 3 7 11 15) (Boxes.c1 w g 3 7 11 15) (Boxes.c2 w g 3 7 11 15) (Boxes.c3 w g 3 7 11 15) (Boxes.c4 w g 3 7 11 15)
  have K := half_post (n := x) (p := 65536) (q := 65536) (p' := 1048576) (q' := 4096) H (Boxes.blk hg 3 7 11 15) hl (by omega) (by omega) (by omega) (by omega) (by omega) (by decide) (by decide) (by decide) (by decide) (by decide) (by decide)
  have K' := half_post (n := y) (p := 16777216) (q := 256) (p' := 33554432) (q' := 128) K.1 K.2.1 K.2.2.2 (by omega) (by omega) (by omega) (by omega) (by omega) (by decide) (by decide) (by decide) (by decide) (by decide) (by decide)
  have c1 := (half_3_7_0 x H (by omega) (by omega) (by omega) (by omega) (by omega))
  have c2 := (half_3_7_1 y K.1 (by omega) (by omega) (by omega) (by omega) (by omega))
  obtain ⟨w1, hw1⟩ : ∃ W, W = halfW (Boxes w g 3 7 11 15) g 3 7 11 15 (vs.getD 3 0) (vs.getD 7 0) (vs.getD 11 0) (vs.getD 15 0) x 65536 65536 1048576 4096 := ⟨_, rfl⟩
  rw [← hw1] at K K' c1 c2
  obtain ⟨w2, hw2⟩ : ∃ W, W = halfW w1 g 3 7 11 15 ((halfL vs 3 7 11 15 x 65536 65536 1048576 4096).getD 3 0) ((halfL vs 3 7 11 15 x 65536 65536 1048576 4096).getD 7 0) ((halfL vs 3 7 11 15 x 65536 65536 1048576 4096).getD 11 0) ((halfL vs 3 7 11 15 x 65536 65536 1048576 4096).getD 15 0) y 16777216 256 33554432 128 := ⟨_, rfl⟩
  rw [← hw2] at K' c2
  clear hw1 hw2
  have c1 := Aside0.mk c1
  have c2 := Aside0.mk c2
  have HG := Aside0.mk (Boxes.grown w g 3 7 11 15 (some g))
  have K := Aside0.mk K
  have K' := Aside0.mk K'
  clear hl hg hlt
  clear H
  go_enter Tryz.func62, Tryz.ntmps62
  go_wp2_with fail
  with_reducible refine c1.out.mono ?_
  rintro e w' ⟨rfl, hw⟩
  subst hw
  go_wp2_with fail
  with_reducible refine c2.out.mono ?_
  rintro e w' ⟨rfl, hw⟩
  subst hw
  go_wp2_with fail
  go_end0
  have k := K.out
  have k' := K'.out
  exact ⟨rfl, k'.2.1, k'.2.2.2, (HG.out.trans k.2.2.1).trans k'.2.2.1⟩
set_option maxRecDepth 100000 in
set_option maxHeartbeats 1000000 in
theorem mix_0_5 {g : Nat} {vs : List Int} (x y : Int) {w : World} (hg : Blk w g 104 (nums .u32 vs).toArray) (hl : vs.length = 16) :
    Calls Tryz.prog 62 #[.pointer (some ⟨g, 0, none⟩), .int .i64 0, .int .i64 5, .int .i64 10, .int .i64 15, .int .u32 x, .int .u32 y] w
      fun e w' => e = .returned (.tuple #[]) ∧ MixPost w w' g (mixL vs 0 5 10 15 x y) := by
  have hlt := hg.lt
  have H := HF.of (pv := w.heap.size) (pa := w.heap.size + 1) (pb := w.heap.size + 1 + 1) (pc := w.heap.size + 1 + 1 + 1) (pd := w.heap.size + 1 + 1 + 1 + 1) (Boxes.blk hg 0 5 10 15) hl (by decide) (by decide) (by decide) (by decide)
    (Boxes.c0 w g 0 5 10 15) (Boxes.c1 w g 0 5 10 15) (Boxes.c2 w g 0 5 10 15) (Boxes.c3 w g 0 5 10 15) (Boxes.c4 w g 0 5 10 15)
  have K := half_post (n := x) (p := 65536) (q := 65536) (p' := 1048576) (q' := 4096) H (Boxes.blk hg 0 5 10 15) hl (by omega) (by omega) (by omega) (by omega) (by omega) (by decide) (by decide) (by decide) (by decide) (by decide) (by decide)
  have K' := half_post (n := y) (p := 16777216) (q := 256) (p' := 33554432) (q' := 128) K.1 K.2.1 K.2.2.2 (by omega) (by omega) (by omega) (by omega) (by omega) (by decide) (by decide) (by decide) (by decide) (by decide) (by decide)
  have c1 := (half_0_5_0 x H (by omega) (by omega) (by omega) (by omega) (by omega))
  have c2 := (half_0_5_1 y K.1 (by omega) (by omega) (by omega) (by omega) (by omega))
  obtain ⟨w1, hw1⟩ : ∃ W, W = halfW (Boxes w g 0 5 10 15) g 0 5 10 15 (vs.getD 0 0) (vs.getD 5 0) (vs.getD 10 0) (vs.getD 15 0) x 65536 65536 1048576 4096 := ⟨_, rfl⟩
  rw [← hw1] at K K' c1 c2
  obtain ⟨w2, hw2⟩ : ∃ W, W = halfW w1 g 0 5 10 15 ((halfL vs 0 5 10 15 x 65536 65536 1048576 4096).getD 0 0) ((halfL vs 0 5 10 15 x 65536 65536 1048576 4096).getD 5 0) ((halfL vs 0 5 10 15 x 65536 65536 1048576 4096).getD 10 0) ((halfL vs 0 5 10 15 x 65536 65536 1048576 4096).getD 15 0) y 16777216 256 33554432 128 := ⟨_, rfl⟩
  rw [← hw2] at K' c2
  clear hw1 hw2
  have c1 := Aside0.mk c1
  have c2 := Aside0.mk c2
  have HG := Aside0.mk (Boxes.grown w g 0 5 10 15 (some g))
  have K := Aside0.mk K
  have K' := Aside0.mk K'
  clear hl hg hlt
  clear H
  go_enter Tryz.func62, Tryz.ntmps62
  go_wp2_with fail
  with_reducible refine c1.out.mono ?_
  rintro e w' ⟨rfl, hw⟩
  subst hw
  go_wp2_with fail
  with_reducible refine c2.out.mono ?_
  rintro e w' ⟨rfl, hw⟩
  subst hw
  go_wp2_with fail
  go_end0
  have k := K.out
  have k' := K'.out
  exact ⟨rfl, k'.2.1, k'.2.2.2, (HG.out.trans k.2.2.1).trans k'.2.2.1⟩
set_option maxRecDepth 100000 in
set_option maxHeartbeats 1000000 in
theorem mix_1_6 {g : Nat} {vs : List Int} (x y : Int) {w : World} (hg : Blk w g 104 (nums .u32 vs).toArray) (hl : vs.length = 16) :
    Calls Tryz.prog 62 #[.pointer (some ⟨g, 0, none⟩), .int .i64 1, .int .i64 6, .int .i64 11, .int .i64 12, .int .u32 x, .int .u32 y] w
      fun e w' => e = .returned (.tuple #[]) ∧ MixPost w w' g (mixL vs 1 6 11 12 x y) := by
  have hlt := hg.lt
  have H := HF.of (pv := w.heap.size) (pa := w.heap.size + 1) (pb := w.heap.size + 1 + 1) (pc := w.heap.size + 1 + 1 + 1) (pd := w.heap.size + 1 + 1 + 1 + 1) (Boxes.blk hg 1 6 11 12) hl (by decide) (by decide) (by decide) (by decide)
    (Boxes.c0 w g 1 6 11 12) (Boxes.c1 w g 1 6 11 12) (Boxes.c2 w g 1 6 11 12) (Boxes.c3 w g 1 6 11 12) (Boxes.c4 w g 1 6 11 12)
  have K := half_post (n := x) (p := 65536) (q := 65536) (p' := 1048576) (q' := 4096) H (Boxes.blk hg 1 6 11 12) hl (by omega) (by omega) (by omega) (by omega) (by omega) (by decide) (by decide) (by decide) (by decide) (by decide) (by decide)
  have K' := half_post (n := y) (p := 16777216) (q := 256) (p' := 33554432) (q' := 128) K.1 K.2.1 K.2.2.2 (by omega) (by omega) (by omega) (by omega) (by omega) (by decide) (by decide) (by decide) (by decide) (by decide) (by decide)
  have c1 := (half_1_6_0 x H (by omega) (by omega) (by omega) (by omega) (by omega))
  have c2 := (half_1_6_1 y K.1 (by omega) (by omega) (by omega) (by omega) (by omega))
  obtain ⟨w1, hw1⟩ : ∃ W, W = halfW (Boxes w g 1 6 11 12) g 1 6 11 12 (vs.getD 1 0) (vs.getD 6 0) (vs.getD 11 0) (vs.getD 12 0) x 65536 65536 1048576 4096 := ⟨_, rfl⟩
  rw [← hw1] at K K' c1 c2
  obtain ⟨w2, hw2⟩ : ∃ W, W = halfW w1 g 1 6 11 12 ((halfL vs 1 6 11 12 x 65536 65536 1048576 4096).getD 1 0) ((halfL vs 1 6 11 12 x 65536 65536 1048576 4096).getD 6 0) ((halfL vs 1 6 11 12 x 65536 65536 1048576 4096).getD 11 0) ((halfL vs 1 6 11 12 x 65536 65536 1048576 4096).getD 12 0) y 16777216 256 33554432 128 := ⟨_, rfl⟩
  rw [← hw2] at K' c2
  clear hw1 hw2
  have c1 := Aside0.mk c1
  have c2 := Aside0.mk c2
  have HG := Aside0.mk (Boxes.grown w g 1 6 11 12 (some g))
  have K := Aside0.mk K
  have K' := Aside0.mk K'
  clear hl hg hlt
  clear H
  go_enter Tryz.func62, Tryz.ntmps62
  go_wp2_with fail
  with_reducible refine c1.out.mono ?_
  rintro e w' ⟨rfl, hw⟩
  subst hw
  go_wp2_with fail
  with_reducible refine c2.out.mono ?_
  rintro e w' ⟨rfl, hw⟩
  subst hw
  go_wp2_with fail
  go_end0
  have k := K.out
  have k' := K'.out
  exact ⟨rfl, k'.2.1, k'.2.2.2, (HG.out.trans k.2.2.1).trans k'.2.2.1⟩
set_option maxRecDepth 100000 in
set_option maxHeartbeats 1000000 in
theorem mix_2_7 {g : Nat} {vs : List Int} (x y : Int) {w : World} (hg : Blk w g 104 (nums .u32 vs).toArray) (hl : vs.length = 16) :
    Calls Tryz.prog 62 #[.pointer (some ⟨g, 0, none⟩), .int .i64 2, .int .i64 7, .int .i64 8, .int .i64 13, .int .u32 x, .int .u32 y] w
      fun e w' => e = .returned (.tuple #[]) ∧ MixPost w w' g (mixL vs 2 7 8 13 x y) := by
  have hlt := hg.lt
  have H := HF.of (pv := w.heap.size) (pa := w.heap.size + 1) (pb := w.heap.size + 1 + 1) (pc := w.heap.size + 1 + 1 + 1) (pd := w.heap.size + 1 + 1 + 1 + 1) (Boxes.blk hg 2 7 8 13) hl (by decide) (by decide) (by decide) (by decide)
    (Boxes.c0 w g 2 7 8 13) (Boxes.c1 w g 2 7 8 13) (Boxes.c2 w g 2 7 8 13) (Boxes.c3 w g 2 7 8 13) (Boxes.c4 w g 2 7 8 13)
  have K := half_post (n := x) (p := 65536) (q := 65536) (p' := 1048576) (q' := 4096) H (Boxes.blk hg 2 7 8 13) hl (by omega) (by omega) (by omega) (by omega) (by omega) (by decide) (by decide) (by decide) (by decide) (by decide) (by decide)
  have K' := half_post (n := y) (p := 16777216) (q := 256) (p' := 33554432) (q' := 128) K.1 K.2.1 K.2.2.2 (by omega) (by omega) (by omega) (by omega) (by omega) (by decide) (by decide) (by decide) (by decide) (by decide) (by decide)
  have c1 := (half_2_7_0 x H (by omega) (by omega) (by omega) (by omega) (by omega))
  have c2 := (half_2_7_1 y K.1 (by omega) (by omega) (by omega) (by omega) (by omega))
  obtain ⟨w1, hw1⟩ : ∃ W, W = halfW (Boxes w g 2 7 8 13) g 2 7 8 13 (vs.getD 2 0) (vs.getD 7 0) (vs.getD 8 0) (vs.getD 13 0) x 65536 65536 1048576 4096 := ⟨_, rfl⟩
  rw [← hw1] at K K' c1 c2
  obtain ⟨w2, hw2⟩ : ∃ W, W = halfW w1 g 2 7 8 13 ((halfL vs 2 7 8 13 x 65536 65536 1048576 4096).getD 2 0) ((halfL vs 2 7 8 13 x 65536 65536 1048576 4096).getD 7 0) ((halfL vs 2 7 8 13 x 65536 65536 1048576 4096).getD 8 0) ((halfL vs 2 7 8 13 x 65536 65536 1048576 4096).getD 13 0) y 16777216 256 33554432 128 := ⟨_, rfl⟩
  rw [← hw2] at K' c2
  clear hw1 hw2
  have c1 := Aside0.mk c1
  have c2 := Aside0.mk c2
  have HG := Aside0.mk (Boxes.grown w g 2 7 8 13 (some g))
  have K := Aside0.mk K
  have K' := Aside0.mk K'
  clear hl hg hlt
  clear H
  go_enter Tryz.func62, Tryz.ntmps62
  go_wp2_with fail
  with_reducible refine c1.out.mono ?_
  rintro e w' ⟨rfl, hw⟩
  subst hw
  go_wp2_with fail
  with_reducible refine c2.out.mono ?_
  rintro e w' ⟨rfl, hw⟩
  subst hw
  go_wp2_with fail
  go_end0
  have k := K.out
  have k' := K'.out
  exact ⟨rfl, k'.2.1, k'.2.2.2, (HG.out.trans k.2.2.1).trans k'.2.2.1⟩
set_option maxRecDepth 100000 in
set_option maxHeartbeats 1000000 in
theorem mix_3_4 {g : Nat} {vs : List Int} (x y : Int) {w : World} (hg : Blk w g 104 (nums .u32 vs).toArray) (hl : vs.length = 16) :
    Calls Tryz.prog 62 #[.pointer (some ⟨g, 0, none⟩), .int .i64 3, .int .i64 4, .int .i64 9, .int .i64 14, .int .u32 x, .int .u32 y] w
      fun e w' => e = .returned (.tuple #[]) ∧ MixPost w w' g (mixL vs 3 4 9 14 x y) := by
  have hlt := hg.lt
  have H := HF.of (pv := w.heap.size) (pa := w.heap.size + 1) (pb := w.heap.size + 1 + 1) (pc := w.heap.size + 1 + 1 + 1) (pd := w.heap.size + 1 + 1 + 1 + 1) (Boxes.blk hg 3 4 9 14) hl (by decide) (by decide) (by decide) (by decide)
    (Boxes.c0 w g 3 4 9 14) (Boxes.c1 w g 3 4 9 14) (Boxes.c2 w g 3 4 9 14) (Boxes.c3 w g 3 4 9 14) (Boxes.c4 w g 3 4 9 14)
  have K := half_post (n := x) (p := 65536) (q := 65536) (p' := 1048576) (q' := 4096) H (Boxes.blk hg 3 4 9 14) hl (by omega) (by omega) (by omega) (by omega) (by omega) (by decide) (by decide) (by decide) (by decide) (by decide) (by decide)
  have K' := half_post (n := y) (p := 16777216) (q := 256) (p' := 33554432) (q' := 128) K.1 K.2.1 K.2.2.2 (by omega) (by omega) (by omega) (by omega) (by omega) (by decide) (by decide) (by decide) (by decide) (by decide) (by decide)
  have c1 := (half_3_4_0 x H (by omega) (by omega) (by omega) (by omega) (by omega))
  have c2 := (half_3_4_1 y K.1 (by omega) (by omega) (by omega) (by omega) (by omega))
  obtain ⟨w1, hw1⟩ : ∃ W, W = halfW (Boxes w g 3 4 9 14) g 3 4 9 14 (vs.getD 3 0) (vs.getD 4 0) (vs.getD 9 0) (vs.getD 14 0) x 65536 65536 1048576 4096 := ⟨_, rfl⟩
  rw [← hw1] at K K' c1 c2
  obtain ⟨w2, hw2⟩ : ∃ W, W = halfW w1 g 3 4 9 14 ((halfL vs 3 4 9 14 x 65536 65536 1048576 4096).getD 3 0) ((halfL vs 3 4 9 14 x 65536 65536 1048576 4096).getD 4 0) ((halfL vs 3 4 9 14 x 65536 65536 1048576 4096).getD 9 0) ((halfL vs 3 4 9 14 x 65536 65536 1048576 4096).getD 14 0) y 16777216 256 33554432 128 := ⟨_, rfl⟩
  rw [← hw2] at K' c2
  clear hw1 hw2
  have c1 := Aside0.mk c1
  have c2 := Aside0.mk c2
  have HG := Aside0.mk (Boxes.grown w g 3 4 9 14 (some g))
  have K := Aside0.mk K
  have K' := Aside0.mk K'
  clear hl hg hlt
  clear H
  go_enter Tryz.func62, Tryz.ntmps62
  go_wp2_with fail
  with_reducible refine c1.out.mono ?_
  rintro e w' ⟨rfl, hw⟩
  subst hw
  go_wp2_with fail
  with_reducible refine c2.out.mono ?_
  rintro e w' ⟨rfl, hw⟩
  subst hw
  go_wp2_with fail
  go_end0
  have k := K.out
  have k' := K'.out
  exact ⟨rfl, k'.2.1, k'.2.2.2, (HG.out.trans k.2.2.1).trans k'.2.2.1⟩
end Go.Proofs.YtoljjgabgdifbaaGreatDoor.H


namespace Go.Proofs
open Go.Shelf
open Go.Shelf
def Tryz.lays137_ren : Go.Shelf.Ren := ⟨fun | 137 => 82 | 217 => 98 | 266 => 102 | n => n, fun | 9 => 9 | 5 => 5 | 3 => 3 | n => n, fun | n => n⟩
theorem Tryz.lays137 : Go.Proofs.Lays.n137 Tryz.prog Tryz.lays137_ren := {
  mixed := by kernel_rfl
  f137 := Tryz.func82.trans (congrArg some (by kernel_rfl))
  f217 := Tryz.func98.trans (congrArg some (by kernel_rfl))
  f266 := Tryz.func102.trans (congrArg some (by kernel_rfl))
  t3 := Tryz.underlying3
  a3 := Tryz.isAgg3
  z3 := Tryz.sizeOf3
  v3 := Tryz.zeroValue3
  t5 := Tryz.underlying5
  a5 := Tryz.isAgg5
  z5 := Tryz.sizeOf5
  v5 := Tryz.zeroValue5
  t9 := Tryz.underlying9
  a9 := Tryz.isAgg9
  z9 := Tryz.sizeOf9
  v9 := Tryz.zeroValue9 }
open Go.RowKit in
/-- strings.IndexByte: "IndexByte returns the index of the first instance of c in s, or -1 if c is not present in s.": IT RETURNS 'Lib.indexByte s c'; the world is as it was. (LAID: no walk: one application.) -/
theorem Tryz.strings_IndexByte (s : ByteArray) (c : Int) (w : World) :
    Calls Tryz.prog 82 #[.string s, .int .u8 c] w fun e w' => e = .returned (.int .i64 (Lib.indexByte s.data.toList c.toNat.toUInt8)) ∧ w' = w := Any.strings_IndexByte Tryz.lays137 s c w

end Go.Proofs

