/- Layer 2's answer: a mixing. -/
import Derived.Test.YtoljjgabgdifbaaH3
import Derived.IntWalk
namespace Go.Proofs.Ytoljjgabgdifbaa.H
open Go.RowKit Go.Proofs.YtoljjgabgdifbaaW.PrintWords Go.Proofs.YtoljjgabgdifbaaW.PrintLast
set_option linter.unusedVariables false
set_option linter.unusedSimpArgs false

theorem or_comm' (k : IntKind) (x y : Int) : Go.bits .or k x y = Go.bits .or k y x := by
  show k.wrap _ = k.wrap _
  simp only [BitVec.or_comm]
theorem turned16 (x : Int) (w : World) : Calls Try.prog 102 #[.int .u32 x, .int .u64 16] w fun e w' => e = .returned (.int .u32 (rot x 65536 65536)) ∧ w' = w := by
  go_enter Try.func102, Try.ntmps102
  go_wp2
  go_ret
  exact ⟨ret_int (or_comm' _ _ _), rfl⟩
theorem turned12 (x : Int) (w : World) : Calls Try.prog 102 #[.int .u32 x, .int .u64 12] w fun e w' => e = .returned (.int .u32 (rot x 1048576 4096)) ∧ w' = w := by
  go_enter Try.func102, Try.ntmps102
  go_wp2
  go_ret
  exact ⟨ret_int (or_comm' _ _ _), rfl⟩
theorem turned8 (x : Int) (w : World) : Calls Try.prog 102 #[.int .u32 x, .int .u64 8] w fun e w' => e = .returned (.int .u32 (rot x 16777216 256)) ∧ w' = w := by
  go_enter Try.func102, Try.ntmps102
  go_wp2
  go_ret
  exact ⟨ret_int (or_comm' _ _ _), rfl⟩
theorem turned7 (x : Int) (w : World) : Calls Try.prog 102 #[.int .u32 x, .int .u64 7] w fun e w' => e = .returned (.int .u32 (rot x 33554432 128)) ∧ w' = w := by
  go_enter Try.func102, Try.ntmps102
  go_wp2
  go_ret
  exact ⟨ret_int (or_comm' _ _ _), rfl⟩

theorem Blk.rsetRow_ {w : World} {g : Nat} {t : TypeId} {cs : Array Value} (h : Blk w g t cs) (cs' : Array Value) : Blk (w.setRow g cs') g t cs' := setRow_heap w g cs cs' t (0, 0) h
theorem rbelow_setRow {B g : Nat} {w0 w : World} (hb : Below B w0 w) (hBg : B ≤ g) (cs : Array Value) : Below B w0 (w.setRow g cs) :=
  hb.trans ⟨rfl, rfl, rfl, by simp [World.setRow], fun k hk => setRow_other w g k cs (by omega)⟩
theorem nums_all32 (vs : List Int) : (nums .u32 vs).toArray.all (·.oneCell') = true := by
  rw [Array.all_eq_true_iff_forall_mem]
  intro v hv
  simp only [nums, List.mem_toArray, List.mem_map] at hv
  obtain ⟨x, _, rfl⟩ := hv
  rfl
/-- What stands while four numbers are mixed. -/
structure RF (w0 w : World) (a b c d : Nat) (vs : List Int) (xa xb xc xd : Int) : Prop where
  below : Below w0.heap.size w0 w
  blk : Blk w w0.heap.size 112 (nums .u32 vs).toArray
  res : Blk w (w0.heap.size + 1) 112 (nums .u32 (List.replicate 16 0)).toArray
  len : vs.length = 16
  ga : vs.getD a 0 = xa
  gb : vs.getD b 0 = xb
  gc : vs.getD c 0 = xc
  gd : vs.getD d 0 = xd
theorem getD_set_ne {vs : List Int} {i j : Nat} (h : i ≠ j) (y : Int) : (vs.set i y).getD j 0 = vs.getD j 0 := by
  simp [List.getD_eq_getElem?_getD, List.getElem?_set_ne h]
theorem getD_set_eq {vs : List Int} {i : Nat} (h : i < vs.length) (y : Int) : (vs.set i y).getD i 0 = y := by
  simp [List.getD_eq_getElem?_getD, List.getElem?_set_self h]
theorem RF.q {w0 w : World} {a b c d : Nat} {vs : List Int} {xa xb xc xd : Int} (X : RF w0 w a b c d vs xa xb xc xd) (i : Nat) (hi : i < 16) {y : Int} (hy : vs.getD i 0 = y) : w.cell? ⟨w0.heap.size, i, none⟩ = some (.int .u32 y) := by
  rw [← hy]
  exact (X.blk.cell i).trans (nums_get (by rw [X.len]; exact hi))
theorem RF.set_ {w0 w : World} {a b c d : Nat} {vs : List Int} {xa xb xc xd : Int} (X : RF w0 w a b c d vs xa xb xc xd) (i : Nat) (y : Int) {ya yb yc yd : Int} (ha : (vs.set i y).getD a 0 = ya) (hb : (vs.set i y).getD b 0 = yb) (hc : (vs.set i y).getD c 0 = yc) (hd : (vs.set i y).getD d 0 = yd) :
    RF w0 ((w.setCell ⟨w0.heap.size, i, none⟩ (.int .u32 y)).drew) a b c d (vs.set i y) ya yb yc yd := by
  refine ⟨below_drew (X.below.setCell (Nat.le_refl _) _), ?_, (X.res.far (by simp) _).drew, by rw [List.length_set]; exact X.len, ha, hb, hc, hd⟩
  have z := X.blk.set_ i (.int .u32 y)
  rw [nums_set] at z
  exact z.drew
theorem RF.set_a {w0 w : World} {a b c d : Nat} {vs : List Int} {xa xb xc xd : Int} (X : RF w0 w a b c d vs xa xb xc xd) (y : Int) (h : a < 16) (mb : a ≠ b) (mc : a ≠ c) (md : a ≠ d) :
    RF w0 ((w.setCell ⟨w0.heap.size, a, none⟩ (.int .u32 y)).drew) a b c d (vs.set a y) y xb xc xd :=
  X.set_ a y (getD_set_eq (by rw [X.len]; exact h) y) ((getD_set_ne mb y).trans X.gb) ((getD_set_ne mc y).trans X.gc) ((getD_set_ne md y).trans X.gd)
theorem RF.set_b {w0 w : World} {a b c d : Nat} {vs : List Int} {xa xb xc xd : Int} (X : RF w0 w a b c d vs xa xb xc xd) (y : Int) (h : b < 16) (ma : b ≠ a) (mc : b ≠ c) (md : b ≠ d) :
    RF w0 ((w.setCell ⟨w0.heap.size, b, none⟩ (.int .u32 y)).drew) a b c d (vs.set b y) xa y xc xd :=
  X.set_ b y ((getD_set_ne ma y).trans X.ga) (getD_set_eq (by rw [X.len]; exact h) y) ((getD_set_ne mc y).trans X.gc) ((getD_set_ne md y).trans X.gd)
theorem RF.set_c {w0 w : World} {a b c d : Nat} {vs : List Int} {xa xb xc xd : Int} (X : RF w0 w a b c d vs xa xb xc xd) (y : Int) (h : c < 16) (ma : c ≠ a) (mb : c ≠ b) (md : c ≠ d) :
    RF w0 ((w.setCell ⟨w0.heap.size, c, none⟩ (.int .u32 y)).drew) a b c d (vs.set c y) xa xb y xd :=
  X.set_ c y ((getD_set_ne ma y).trans X.ga) ((getD_set_ne mb y).trans X.gb) (getD_set_eq (by rw [X.len]; exact h) y) ((getD_set_ne md y).trans X.gd)
theorem RF.set_d {w0 w : World} {a b c d : Nat} {vs : List Int} {xa xb xc xd : Int} (X : RF w0 w a b c d vs xa xb xc xd) (y : Int) (h : d < 16) (ma : d ≠ a) (mb : d ≠ b) (mc : d ≠ c) :
    RF w0 ((w.setCell ⟨w0.heap.size, d, none⟩ (.int .u32 y)).drew) a b c d (vs.set d y) xa xb xc y :=
  X.set_ d y ((getD_set_ne ma y).trans X.ga) ((getD_set_ne mb y).trans X.gb) ((getD_set_ne mc y).trans X.gc) (getD_set_eq (by rw [X.len]; exact h) y)
theorem mod_add3 (a b x : Int) : ((a + b) % 4294967296 + x) % 4294967296 = (a + (b + x) % 4294967296) % 4294967296 := by omega
set_option maxRecDepth 100000 in
set_option maxHeartbeats 4000000 in
theorem rmix_calls {vs : List Int} (a b c d : Nat) (x y : Int) (w : World) (hl : vs.length = 16) (la : a < 16) (lb : b < 16) (lc : c < 16) (ld : d < 16) (ab : a ≠ b) (ac : a ≠ c) (ad : a ≠ d) (bc : b ≠ c) (bd : b ≠ d) (cd : c ≠ d) :
    Calls Try.prog 87 #[.agg (nums .u32 vs).toArray, .int .i64 a, .int .i64 b, .int .i64 c, .int .i64 d, .int .u32 x, .int .u32 y] w
      fun e w' => e = .returned (.agg (nums .u32 (mixL vs a b c d x y)).toArray) ∧ Below w.heap.size w w' := by
  have X0 : RF w ((w.alloc (.cells (nums .u32 vs).toArray 112)).alloc (.cells (nums .u32 (List.replicate 16 0)).toArray 112)) a b c d vs (vs.getD a 0) (vs.getD b 0) (vs.getD c 0) (vs.getD d 0) :=
    ⟨((Below.refl w.heap.size w).alloc (Nat.le_refl _) _).alloc (by rw [sz]; omega) _, (Blk.new w 112 _).alloc _, by have z := Blk.new (w.alloc (.cells (nums .u32 vs).toArray 112)) 112 (nums .u32 (List.replicate 16 0)).toArray; rw [sz] at z; exact z, hl, rfl, rfl, rfl, rfl⟩
  generalize hw0 : ((w.alloc (.cells (nums .u32 vs).toArray 112)).alloc (.cells (nums .u32 (List.replicate 16 0)).toArray 112)) = w0 at X0
  have HW0 := Aside0.mk hw0
  clear hw0
  have ML : mixL vs a b c d x y = halfL (halfL vs a b c d x 65536 65536 1048576 4096) a b c d y 16777216 256 33554432 128 := rfl
  generalize hm : mixL vs a b c d x y = R at ML ⊢
  have ML := Aside0.mk ML
  clear hm
  obtain ⟨xa, ha⟩ : ∃ z, z = vs.getD a 0 := ⟨_, rfl⟩
  obtain ⟨xb, hb⟩ : ∃ z, z = vs.getD b 0 := ⟨_, rfl⟩
  obtain ⟨xc, hc⟩ : ∃ z, z = vs.getD c 0 := ⟨_, rfl⟩
  obtain ⟨xd, hd⟩ : ∃ z, z = vs.getD d 0 := ⟨_, rfl⟩
  rw [← ha, ← hb, ← hc, ← hd] at X0
  have l0 : vs.length = 16 := hl
  have X1 := X0.set_a (hA xa xb x) la ab ac ad
  have X2 := X1.set_d (hD xa xb xd x 65536 65536) ld ad.symm bd.symm cd.symm
  have X3 := X2.set_c (hC xa xb xc xd x 65536 65536) lc ac.symm bc.symm cd
  have X4 := X3.set_b (hB xa xb xc xd x 65536 65536 1048576 4096) lb ab.symm bc bd
  obtain ⟨v4, hv4⟩ : ∃ z, z = (((vs.set a (hA xa xb x)).set d (hD xa xb xd x 65536 65536)).set c (hC xa xb xc xd x 65536 65536)).set b (hB xa xb xc xd x 65536 65536 1048576 4096) := ⟨_, rfl⟩
  have HF1 : halfL vs a b c d x 65536 65536 1048576 4096 = v4 := by rw [hv4]; unfold halfL; rw [← ha, ← hb, ← hc, ← hd]
  obtain ⟨ya, hya⟩ : ∃ z, z = hA xa xb x := ⟨_, rfl⟩
  obtain ⟨yb, hyb⟩ : ∃ z, z = hB xa xb xc xd x 65536 65536 1048576 4096 := ⟨_, rfl⟩
  obtain ⟨yc, hyc⟩ : ∃ z, z = hC xa xb xc xd x 65536 65536 := ⟨_, rfl⟩
  obtain ⟨yd, hyd⟩ : ∃ z, z = hD xa xb xd x 65536 65536 := ⟨_, rfl⟩
  rw [← hv4, ← hya, ← hyb, ← hyc, ← hyd] at X4
  rw [← hya] at X1
  rw [← hya, ← hyd] at X2
  rw [← hya, ← hyc, ← hyd] at X3
  have X5 := X4.set_a (hA ya yb y) la ab ac ad
  have X6 := X5.set_d (hD ya yb yd y 16777216 256) ld ad.symm bd.symm cd.symm
  have X7 := X6.set_c (hC ya yb yc yd y 16777216 256) lc ac.symm bc.symm cd
  have X8 := X7.set_b (hB ya yb yc yd y 16777216 256 33554432 128) lb ab.symm bc bd
  have ME : R = (((v4.set a (hA ya yb y)).set d (hD ya yb yd y 16777216 256)).set c (hC ya yb yc yd y 16777216 256)).set b (hB ya yb yc yd y 16777216 256 33554432 128) := by
    rw [ML.out, HF1]
    unfold halfL
    rw [X4.ga, X4.gb, X4.gc, X4.gd]
  have LM : R.length = 16 := by rw [ME]; exact X8.len
  obtain ⟨w1, hw1⟩ : ∃ z, z = (w0.setCell ⟨w.heap.size, a, none⟩ (.int .u32 (ya))).drew := ⟨_, rfl⟩
  rw [← hw1] at X1 X2 X3 X4 X5 X6 X7 X8
  obtain ⟨w2, hw2⟩ : ∃ z, z = (w1.setCell ⟨w.heap.size, d, none⟩ (.int .u32 (yd))).drew := ⟨_, rfl⟩
  rw [← hw2] at X2 X3 X4 X5 X6 X7 X8
  obtain ⟨w3, hw3⟩ : ∃ z, z = (w2.setCell ⟨w.heap.size, c, none⟩ (.int .u32 (yc))).drew := ⟨_, rfl⟩
  rw [← hw3] at X3 X4 X5 X6 X7 X8
  obtain ⟨w4, hw4⟩ : ∃ z, z = (w3.setCell ⟨w.heap.size, b, none⟩ (.int .u32 (yb))).drew := ⟨_, rfl⟩
  rw [← hw4] at X4 X5 X6 X7 X8
  obtain ⟨w5, hw5⟩ : ∃ z, z = (w4.setCell ⟨w.heap.size, a, none⟩ (.int .u32 (hA ya yb y))).drew := ⟨_, rfl⟩
  rw [← hw5] at X5 X6 X7 X8
  obtain ⟨w6, hw6⟩ : ∃ z, z = (w5.setCell ⟨w.heap.size, d, none⟩ (.int .u32 (hD ya yb yd y 16777216 256))).drew := ⟨_, rfl⟩
  rw [← hw6] at X6 X7 X8
  obtain ⟨w7, hw7⟩ : ∃ z, z = (w6.setCell ⟨w.heap.size, c, none⟩ (.int .u32 (hC ya yb yc yd y 16777216 256))).drew := ⟨_, rfl⟩
  rw [← hw7] at X7 X8
  obtain ⟨w8, hw8⟩ : ∃ z, z = (w7.setCell ⟨w.heap.size, b, none⟩ (.int .u32 (hB ya yb yc yd y 16777216 256 33554432 128))).drew := ⟨_, rfl⟩
  rw [← hw8] at X8
  rw [← ME] at X8
  have X0 := Aside0.mk X0
  have X1 := Aside0.mk X1
  have X2 := Aside0.mk X2
  have X3 := Aside0.mk X3
  have X4 := Aside0.mk X4
  have X5 := Aside0.mk X5
  have X6 := Aside0.mk X6
  have X7 := Aside0.mk X7
  have X8 := Aside0.mk X8
  have J1 := Aside0.mk hw1
  have J2 := Aside0.mk hw2
  have J3 := Aside0.mk hw3
  have J4 := Aside0.mk hw4
  have J5 := Aside0.mk hw5
  have J6 := Aside0.mk hw6
  have J7 := Aside0.mk hw7
  have J8 := Aside0.mk hw8
  have LM := Aside0.mk LM
  have HYA := Aside0.mk hya
  have HYB := Aside0.mk hyb
  have HYC := Aside0.mk hyc
  have HYD := Aside0.mk hyd
  clear hw1 hw2 hw3 hw4 hw5 hw6 hw7 hw8 ha hb hc hd hya hyb hyc hyd hv4 HF1 ME hl l0
  have ia := eq_true (show (a : Int) < 16 by omega)
  have ja := eq_true (show (0 : Int) ≤ (a : Int) by omega)
  have ib := eq_true (show (b : Int) < 16 by omega)
  have jb := eq_true (show (0 : Int) ≤ (b : Int) by omega)
  have ic := eq_true (show (c : Int) < 16 by omega)
  have jc := eq_true (show (0 : Int) ≤ (c : Int) by omega)
  have id := eq_true (show (d : Int) < 16 by omega)
  have jd := eq_true (show (0 : Int) ≤ (d : Int) by omega)
  clear ab ac ad bc bd cd
  go_enter Try.func87, Try.ntmps87
  go_wp2_with fail
  trace_state
  rw [show ((w.alloc (.cells (nums .u32 vs).toArray 112)).alloc (.cells #[.int .u32 0, .int .u32 0, .int .u32 0, .int .u32 0, .int .u32 0, .int .u32 0, .int .u32 0, .int .u32 0, .int .u32 0, .int .u32 0, .int .u32 0, .int .u32 0, .int .u32 0, .int .u32 0, .int .u32 0, .int .u32 0] 112)) = w0 from HW0.out]
  have fz := X0.out.blk.frozen a
  have qa := X0.out.q a la X0.out.ga
  have qb := X0.out.q b lb X0.out.gb
  have qc := X0.out.q c lc X0.out.gc
  have qd := X0.out.q d ld X0.out.gd
  go_still_tail 11, (by kernel_rfl)
  go_wp2_with fail
  rw [show (w0.setCell ⟨w.heap.size, a, none⟩ (.int .u32 (((xa + xb) % 4294967296 + x) % 4294967296))).drew = w1 from by rw [mod_add3, show (xa + (xb + x) % 4294967296) % 4294967296 = ya from HYA.out.symm]; exact J1.out.symm]
  clear fz qa qb qc qd
  have fz := X1.out.blk.frozen d
  have qa := X1.out.q a la X1.out.ga
  have qb := X1.out.q b lb X1.out.gb
  have qc := X1.out.q c lc X1.out.gc
  have qd := X1.out.q d ld X1.out.gd
  refine wp_region_still_tail 10 (by kernel_rfl) (by kernel_rfl) ?_
  simp only [List.take_succ_cons, List.take_zero, List.drop_succ_cons, List.drop_zero]
  repeat still_step
  still_call (turned16 _ _)
  repeat still_step
  refine wpStill_nil ?_
  go_wp2_with fail
  rw [show (w1.setCell ⟨w.heap.size, d, none⟩ (.int .u32 (rot (Go.bits .xor .u32 xd ya) 65536 65536))).drew = w2 from by rw [show rot (Go.bits .xor .u32 xd ya) 65536 65536 = yd from by rw [HYD.out, HYA.out]; rfl]; exact J2.out.symm]
  clear fz qa qb qc qd
  have fz := X2.out.blk.frozen c
  have qa := X2.out.q a la X2.out.ga
  have qb := X2.out.q b lb X2.out.gb
  have qc := X2.out.q c lc X2.out.gc
  have qd := X2.out.q d ld X2.out.gd
  go_still_tail 9, (by kernel_rfl)
  go_wp2_with fail
  rw [show (w2.setCell ⟨w.heap.size, c, none⟩ (.int .u32 ((xc + yd) % 4294967296))).drew = w3 from by rw [show (xc + yd) % 4294967296 = yc from by rw [HYC.out, HYD.out]; rfl]; exact J3.out.symm]
  clear fz qa qb qc qd
  have fz := X3.out.blk.frozen b
  have qa := X3.out.q a la X3.out.ga
  have qb := X3.out.q b lb X3.out.gb
  have qc := X3.out.q c lc X3.out.gc
  have qd := X3.out.q d ld X3.out.gd
  refine wp_region_still_tail 10 (by kernel_rfl) (by kernel_rfl) ?_
  simp only [List.take_succ_cons, List.take_zero, List.drop_succ_cons, List.drop_zero]
  repeat still_step
  still_call (turned12 _ _)
  repeat still_step
  refine wpStill_nil ?_
  go_wp2_with fail
  rw [show (w3.setCell ⟨w.heap.size, b, none⟩ (.int .u32 (rot (Go.bits .xor .u32 xb yc) 1048576 4096))).drew = w4 from by rw [show rot (Go.bits .xor .u32 xb yc) 1048576 4096 = yb from by rw [HYB.out, HYC.out]; rfl]; exact J4.out.symm]
  clear fz qa qb qc qd
  have fz := X4.out.blk.frozen a
  have qa := X4.out.q a la X4.out.ga
  have qb := X4.out.q b lb X4.out.gb
  have qc := X4.out.q c lc X4.out.gc
  have qd := X4.out.q d ld X4.out.gd
  go_still_tail 11, (by kernel_rfl)
  go_wp2_with fail
  rw [show (w4.setCell ⟨w.heap.size, a, none⟩ (.int .u32 (((ya + yb) % 4294967296 + y) % 4294967296))).drew = w5 from by rw [mod_add3]; exact J5.out.symm]
  clear fz qa qb qc qd
  have fz := X5.out.blk.frozen d
  have qa := X5.out.q a la X5.out.ga
  have qb := X5.out.q b lb X5.out.gb
  have qc := X5.out.q c lc X5.out.gc
  have qd := X5.out.q d ld X5.out.gd
  refine wp_region_still_tail 10 (by kernel_rfl) (by kernel_rfl) ?_
  simp only [List.take_succ_cons, List.take_zero, List.drop_succ_cons, List.drop_zero]
  repeat still_step
  still_call (turned8 _ _)
  repeat still_step
  refine wpStill_nil ?_
  go_wp2_with fail
  rw [show (w5.setCell ⟨w.heap.size, d, none⟩ (.int .u32 (rot (Go.bits .xor .u32 yd (hA ya yb y)) 16777216 256))).drew = w6 from J6.out.symm]
  clear fz qa qb qc qd
  have fz := X6.out.blk.frozen c
  have qa := X6.out.q a la X6.out.ga
  have qb := X6.out.q b lb X6.out.gb
  have qc := X6.out.q c lc X6.out.gc
  have qd := X6.out.q d ld X6.out.gd
  go_still_tail 9, (by kernel_rfl)
  go_wp2_with fail
  rw [show (w6.setCell ⟨w.heap.size, c, none⟩ (.int .u32 ((yc + hD ya yb yd y 16777216 256) % 4294967296))).drew = w7 from J7.out.symm]
  clear fz qa qb qc qd
  have B0 := Aside0.mk X8.out.blk
  have B1 := Aside0.mk X8.out.res
  have fz := X7.out.blk.frozen b
  have qa := X7.out.q a la X7.out.ga
  have qb := X7.out.q b lb X7.out.gb
  have qc := X7.out.q c lc X7.out.gc
  have qd := X7.out.q d ld X7.out.gd
  refine wp_region_still_tail 10 (by kernel_rfl) (by kernel_rfl) ?_
  simp only [List.take_succ_cons, List.take_zero, List.drop_succ_cons, List.drop_zero]
  repeat still_step
  still_call (turned7 _ _)
  repeat still_step
  refine wpStill_nil ?_
  go_wp2_with (first | (rw [show (w7.setCell ⟨w.heap.size, b, none⟩ (.int .u32 (rot (Go.bits .xor .u32 yb (hC ya yb yc yd y 16777216 256)) 33554432 128))).drew = w8 from J8.out.symm]) | (refine wpList_load_row rfl 112 (.tmp 7) rfl w.heap.size rfl 112 _ (0, 0) _ B0.out Try.underlying112 rfl (by rw [List.size_toArray, nums_length, LM.out]; kernel_rfl) ?_) | (refine wpList_store_row rfl 112 (.tmp 14) (.tmp 95) rfl (w.heap.size + 1) _ rfl rfl 112 _ B1.out (by rw [List.size_toArray, nums_length, LM.out]; kernel_rfl) (by rw [List.size_toArray, nums_length, List.size_toArray, nums_length, LM.out]; rfl) (nums_all32 _) ?_))
  exact bodyPost_ret (results_cell_row (p := 14) (ty := 112) rfl _ _ (w.heap.size + 1) 112 _ (0, 0) _ rfl (B1.out.rsetRow_ _) Try.underlying112 rfl (by rw [List.size_toArray, nums_length, LM.out]; kernel_rfl)) rfl ⟨rfl, rbelow_setRow X8.out.below (by omega) _⟩
end Go.Proofs.Ytoljjgabgdifbaa.H
