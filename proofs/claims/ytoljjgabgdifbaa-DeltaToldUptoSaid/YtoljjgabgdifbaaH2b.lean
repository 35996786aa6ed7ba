/- Layer 2 of the program: the half of a mixing, at two of its eight places. -/
import Derived.Test.YtoljjgabgdifbaaH1
namespace Go.Proofs.Ytoljjgabgdifbaa.H
open Go.RowKit Go.Proofs.YtoljjgabgdifbaaW.PrintWords Go.Proofs.YtoljjgabgdifbaaW.PrintLast
set_option linter.unusedVariables false
set_option linter.unusedSimpArgs false
set_option maxRecDepth 100000 in
set_option maxHeartbeats 1000000 in
theorem half_2_6_0 {g pv pa pb pc pd : Nat} {xa xb xc xd : Int} (n : Int) {w : World} (H : HF w g pv pa pb pc pd 2 6 10 14 xa xb xc xd)
    (n1 : pv ≠ g) (n2 : pa ≠ g) (n3 : pb ≠ g) (n4 : pc ≠ g) (n5 : pd ≠ g) :
    Calls Try.prog 94 #[.int .u32 n, .int .i64 16, .int .i64 12, .pointer (some ⟨pv, 0, none⟩), .pointer (some ⟨pa, 0, none⟩), .pointer (some ⟨pb, 0, none⟩), .pointer (some ⟨pd, 0, none⟩), .pointer (some ⟨pc, 0, none⟩)] w
      fun e w' => e = .returned (.tuple #[]) ∧ w' = halfW w g 2 6 10 14 xa xb xc xd n 65536 65536 1048576 4096 := by
  have R := H.set_a n1 n2 n3 n4 n5 (hA xa xb n) (by decide) (by decide) (by decide)
  have R2 := R.set_d n1 n2 n3 n4 n5 (hD xa xb xd n 65536 65536) (by decide) (by decide) (by decide)
  have R3 := R2.set_c n1 n2 n3 n4 n5 (hC xa xb xc xd n 65536 65536) (by decide) (by decide) (by decide)
  unfold halfW
  obtain ⟨w1, hw1⟩ : ∃ x, x = (w.setCell ⟨g, 2, none⟩ (.int .u32 (hA xa xb n))).drew := ⟨_, rfl⟩
  rw [← hw1] at R R2 R3 ⊢
  obtain ⟨w2, hw2⟩ : ∃ x, x = (w1.setCell ⟨g, 14, none⟩ (.int .u32 (hD xa xb xd n 65536 65536))).drew := ⟨_, rfl⟩
  rw [← hw2] at R2 R3 ⊢
  obtain ⟨w3, hw3⟩ : ∃ x, x = (w2.setCell ⟨g, 10, none⟩ (.int .u32 (hC xa xb xc xd n 65536 65536))).drew := ⟨_, rfl⟩
  rw [← hw3] at R3 ⊢
  have J1 := Lib.hid hw1
  have J2 := Lib.hid hw2
  have J3 := Lib.hid hw3
  clear hw1 hw2 hw3
  have R := Aside0.mk R
  have R2 := Aside0.mk R2
  have R3 := Aside0.mk R3
  clear n1 n2 n3 n4 n5
  obtain ⟨hv, ha, hb, hc, hd, qa, qb, qc, qd, fa, fb, fc, fd⟩ := H
  go_enter Try.func94, Try.ntmps94
  go_wp2
  go_still_tail 15, (by kernel_rfl)
  go_wp2
  rw [show (w.setCell ⟨g, 2, none⟩ (.int .u32 ((xa + (xb + n) % 4294967296) % 4294967296))).drew = w1 from J1.out.symm]
  clear hv ha hb hc hd qa qb qc qd fa fb fc fd
  obtain ⟨hv, ha, hb, hc, hd, qa, qb, qc, qd, fa, fb, fc, fd⟩ := R.out
  clear R
  refine wp_region_still_tail 18 (by kernel_rfl) (by kernel_rfl) ?_
  simp only [List.take_succ_cons, List.take_zero, List.drop_succ_cons, List.drop_zero]
  repeat still_step
  still_call (rot16 _ _)
  repeat still_step
  refine wpStill_nil ?_
  go_wp2
  rw [show (w1.setCell ⟨g, 14, none⟩ (.int .u32 (rot (Go.bits .xor .u32 xd (hA xa xb n)) 65536 65536))).drew = w2 from J2.out.symm]
  clear hv ha hb hc hd qa qb qc qd fa fb fc fd
  obtain ⟨hv, ha, hb, hc, hd, qa, qb, qc, qd, fa, fb, fc, fd⟩ := R2.out
  clear R2
  go_still_tail 13, (by kernel_rfl)
  go_wp2
  rw [show (w2.setCell ⟨g, 10, none⟩ (.int .u32 ((xc + hD xa xb xd n 65536 65536) % 4294967296))).drew = w3 from J3.out.symm]
  clear hv ha hb hc hd qa qb qc qd fa fb fc fd
  obtain ⟨hv, ha, hb, hc, hd, qa, qb, qc, qd, fa, fb, fc, fd⟩ := R3.out
  clear R3
  refine wp_region_still_tail 18 (by kernel_rfl) (by kernel_rfl) ?_
  simp only [List.take_succ_cons, List.take_zero, List.drop_succ_cons, List.drop_zero]
  repeat still_step
  still_call (rot12 _ _)
  repeat still_step
  refine wpStill_nil ?_
  go_wp2
  go_end0
  exact ⟨rfl, rfl⟩
set_option maxRecDepth 100000 in
set_option maxHeartbeats 1000000 in
theorem half_2_6_1 {g pv pa pb pc pd : Nat} {xa xb xc xd : Int} (n : Int) {w : World} (H : HF w g pv pa pb pc pd 2 6 10 14 xa xb xc xd)
    (n1 : pv ≠ g) (n2 : pa ≠ g) (n3 : pb ≠ g) (n4 : pc ≠ g) (n5 : pd ≠ g) :
    Calls Try.prog 94 #[.int .u32 n, .int .i64 8, .int .i64 7, .pointer (some ⟨pv, 0, none⟩), .pointer (some ⟨pa, 0, none⟩), .pointer (some ⟨pb, 0, none⟩), .pointer (some ⟨pd, 0, none⟩), .pointer (some ⟨pc, 0, none⟩)] w
      fun e w' => e = .returned (.tuple #[]) ∧ w' = halfW w g 2 6 10 14 xa xb xc xd n 16777216 256 33554432 128 := by
  have R := H.set_a n1 n2 n3 n4 n5 (hA xa xb n) (by decide) (by decide) (by decide)
  have R2 := R.set_d n1 n2 n3 n4 n5 (hD xa xb xd n 16777216 256) (by decide) (by decide) (by decide)
  have R3 := R2.set_c n1 n2 n3 n4 n5 (hC xa xb xc xd n 16777216 256) (by decide) (by decide) (by decide)
  unfold halfW
  obtain ⟨w1, hw1⟩ : ∃ x, x = (w.setCell ⟨g, 2, none⟩ (.int .u32 (hA xa xb n))).drew := ⟨_, rfl⟩
  rw [← hw1] at R R2 R3 ⊢
  obtain ⟨w2, hw2⟩ : ∃ x, x = (w1.setCell ⟨g, 14, none⟩ (.int .u32 (hD xa xb xd n 16777216 256))).drew := ⟨_, rfl⟩
  rw [← hw2] at R2 R3 ⊢
  obtain ⟨w3, hw3⟩ : ∃ x, x = (w2.setCell ⟨g, 10, none⟩ (.int .u32 (hC xa xb xc xd n 16777216 256))).drew := ⟨_, rfl⟩
  rw [← hw3] at R3 ⊢
  have J1 := Lib.hid hw1
  have J2 := Lib.hid hw2
  have J3 := Lib.hid hw3
  clear hw1 hw2 hw3
  have R := Aside0.mk R
  have R2 := Aside0.mk R2
  have R3 := Aside0.mk R3
  clear n1 n2 n3 n4 n5
  obtain ⟨hv, ha, hb, hc, hd, qa, qb, qc, qd, fa, fb, fc, fd⟩ := H
  go_enter Try.func94, Try.ntmps94
  go_wp2
  go_still_tail 15, (by kernel_rfl)
  go_wp2
  rw [show (w.setCell ⟨g, 2, none⟩ (.int .u32 ((xa + (xb + n) % 4294967296) % 4294967296))).drew = w1 from J1.out.symm]
  clear hv ha hb hc hd qa qb qc qd fa fb fc fd
  obtain ⟨hv, ha, hb, hc, hd, qa, qb, qc, qd, fa, fb, fc, fd⟩ := R.out
  clear R
  refine wp_region_still_tail 18 (by kernel_rfl) (by kernel_rfl) ?_
  simp only [List.take_succ_cons, List.take_zero, List.drop_succ_cons, List.drop_zero]
  repeat still_step
  still_call (rot8 _ _)
  repeat still_step
  refine wpStill_nil ?_
  go_wp2
  rw [show (w1.setCell ⟨g, 14, none⟩ (.int .u32 (rot (Go.bits .xor .u32 xd (hA xa xb n)) 16777216 256))).drew = w2 from J2.out.symm]
  clear hv ha hb hc hd qa qb qc qd fa fb fc fd
  obtain ⟨hv, ha, hb, hc, hd, qa, qb, qc, qd, fa, fb, fc, fd⟩ := R2.out
  clear R2
  go_still_tail 13, (by kernel_rfl)
  go_wp2
  rw [show (w2.setCell ⟨g, 10, none⟩ (.int .u32 ((xc + hD xa xb xd n 16777216 256) % 4294967296))).drew = w3 from J3.out.symm]
  clear hv ha hb hc hd qa qb qc qd fa fb fc fd
  obtain ⟨hv, ha, hb, hc, hd, qa, qb, qc, qd, fa, fb, fc, fd⟩ := R3.out
  clear R3
  refine wp_region_still_tail 18 (by kernel_rfl) (by kernel_rfl) ?_
  simp only [List.take_succ_cons, List.take_zero, List.drop_succ_cons, List.drop_zero]
  repeat still_step
  still_call (rot7 _ _)
  repeat still_step
  refine wpStill_nil ?_
  go_wp2
  go_end0
  exact ⟨rfl, rfl⟩
set_option maxRecDepth 100000 in
set_option maxHeartbeats 1000000 in
theorem half_3_7_0 {g pv pa pb pc pd : Nat} {xa xb xc xd : Int} (n : Int) {w : World} (H : HF w g pv pa pb pc pd 3 7 11 15 xa xb xc xd)
    (n1 : pv ≠ g) (n2 : pa ≠ g) (n3 : pb ≠ g) (n4 : pc ≠ g) (n5 : pd ≠ g) :
    Calls Try.prog 94 #[.int .u32 n, .int .i64 16, .int .i64 12, .pointer (some ⟨pv, 0, none⟩), .pointer (some ⟨pa, 0, none⟩), .pointer (some ⟨pb, 0, none⟩), .pointer (some ⟨pd, 0, none⟩), .pointer (some ⟨pc, 0, none⟩)] w
      fun e w' => e = .returned (.tuple #[]) ∧ w' = halfW w g 3 7 11 15 xa xb xc xd n 65536 65536 1048576 4096 := by
  have R := H.set_a n1 n2 n3 n4 n5 (hA xa xb n) (by decide) (by decide) (by decide)
  have R2 := R.set_d n1 n2 n3 n4 n5 (hD xa xb xd n 65536 65536) (by decide) (by decide) (by decide)
  have R3 := R2.set_c n1 n2 n3 n4 n5 (hC xa xb xc xd n 65536 65536) (by decide) (by decide) (by decide)
  unfold halfW
  obtain ⟨w1, hw1⟩ : ∃ x, x = (w.setCell ⟨g, 3, none⟩ (.int .u32 (hA xa xb n))).drew := ⟨_, rfl⟩
  rw [← hw1] at R R2 R3 ⊢
  obtain ⟨w2, hw2⟩ : ∃ x, x = (w1.setCell ⟨g, 15, none⟩ (.int .u32 (hD xa xb xd n 65536 65536))).drew := ⟨_, rfl⟩
  rw [← hw2] at R2 R3 ⊢
  obtain ⟨w3, hw3⟩ : ∃ x, x = (w2.setCell ⟨g, 11, none⟩ (.int .u32 (hC xa xb xc xd n 65536 65536))).drew := ⟨_, rfl⟩
  rw [← hw3] at R3 ⊢
  have J1 := Lib.hid hw1
  have J2 := Lib.hid hw2
  have J3 := Lib.hid hw3
  clear hw1 hw2 hw3
  have R := Aside0.mk R
  have R2 := Aside0.mk R2
  have R3 := Aside0.mk R3
  clear n1 n2 n3 n4 n5
  obtain ⟨hv, ha, hb, hc, hd, qa, qb, qc, qd, fa, fb, fc, fd⟩ := H
  go_enter Try.func94, Try.ntmps94
  go_wp2
  go_still_tail 15, (by kernel_rfl)
  go_wp2
  rw [show (w.setCell ⟨g, 3, none⟩ (.int .u32 ((xa + (xb + n) % 4294967296) % 4294967296))).drew = w1 from J1.out.symm]
  clear hv ha hb hc hd qa qb qc qd fa fb fc fd
  obtain ⟨hv, ha, hb, hc, hd, qa, qb, qc, qd, fa, fb, fc, fd⟩ := R.out
  clear R
  refine wp_region_still_tail 18 (by kernel_rfl) (by kernel_rfl) ?_
  simp only [List.take_succ_cons, List.take_zero, List.drop_succ_cons, List.drop_zero]
  repeat still_step
  still_call (rot16 _ _)
  repeat still_step
  refine wpStill_nil ?_
  go_wp2
  rw [show (w1.setCell ⟨g, 15, none⟩ (.int .u32 (rot (Go.bits .xor .u32 xd (hA xa xb n)) 65536 65536))).drew = w2 from J2.out.symm]
  clear hv ha hb hc hd qa qb qc qd fa fb fc fd
  obtain ⟨hv, ha, hb, hc, hd, qa, qb, qc, qd, fa, fb, fc, fd⟩ := R2.out
  clear R2
  go_still_tail 13, (by kernel_rfl)
  go_wp2
  rw [show (w2.setCell ⟨g, 11, none⟩ (.int .u32 ((xc + hD xa xb xd n 65536 65536) % 4294967296))).drew = w3 from J3.out.symm]
  clear hv ha hb hc hd qa qb qc qd fa fb fc fd
  obtain ⟨hv, ha, hb, hc, hd, qa, qb, qc, qd, fa, fb, fc, fd⟩ := R3.out
  clear R3
  refine wp_region_still_tail 18 (by kernel_rfl) (by kernel_rfl) ?_
  simp only [List.take_succ_cons, List.take_zero, List.drop_succ_cons, List.drop_zero]
  repeat still_step
  still_call (rot12 _ _)
  repeat still_step
  refine wpStill_nil ?_
  go_wp2
  go_end0
  exact ⟨rfl, rfl⟩
set_option maxRecDepth 100000 in
set_option maxHeartbeats 1000000 in
theorem half_3_7_1 {g pv pa pb pc pd : Nat} {xa xb xc xd : Int} (n : Int) {w : World} (H : HF w g pv pa pb pc pd 3 7 11 15 xa xb xc xd)
    (n1 : pv ≠ g) (n2 : pa ≠ g) (n3 : pb ≠ g) (n4 : pc ≠ g) (n5 : pd ≠ g) :
    Calls Try.prog 94 #[.int .u32 n, .int .i64 8, .int .i64 7, .pointer (some ⟨pv, 0, none⟩), .pointer (some ⟨pa, 0, none⟩), .pointer (some ⟨pb, 0, none⟩), .pointer (some ⟨pd, 0, none⟩), .pointer (some ⟨pc, 0, none⟩)] w
      fun e w' => e = .returned (.tuple #[]) ∧ w' = halfW w g 3 7 11 15 xa xb xc xd n 16777216 256 33554432 128 := by
  have R := H.set_a n1 n2 n3 n4 n5 (hA xa xb n) (by decide) (by decide) (by decide)
  have R2 := R.set_d n1 n2 n3 n4 n5 (hD xa xb xd n 16777216 256) (by decide) (by decide) (by decide)
  have R3 := R2.set_c n1 n2 n3 n4 n5 (hC xa xb xc xd n 16777216 256) (by decide) (by decide) (by decide)
  unfold halfW
  obtain ⟨w1, hw1⟩ : ∃ x, x = (w.setCell ⟨g, 3, none⟩ (.int .u32 (hA xa xb n))).drew := ⟨_, rfl⟩
  rw [← hw1] at R R2 R3 ⊢
  obtain ⟨w2, hw2⟩ : ∃ x, x = (w1.setCell ⟨g, 15, none⟩ (.int .u32 (hD xa xb xd n 16777216 256))).drew := ⟨_, rfl⟩
  rw [← hw2] at R2 R3 ⊢
  obtain ⟨w3, hw3⟩ : ∃ x, x = (w2.setCell ⟨g, 11, none⟩ (.int .u32 (hC xa xb xc xd n 16777216 256))).drew := ⟨_, rfl⟩
  rw [← hw3] at R3 ⊢
  have J1 := Lib.hid hw1
  have J2 := Lib.hid hw2
  have J3 := Lib.hid hw3
  clear hw1 hw2 hw3
  have R := Aside0.mk R
  have R2 := Aside0.mk R2
  have R3 := Aside0.mk R3
  clear n1 n2 n3 n4 n5
  obtain ⟨hv, ha, hb, hc, hd, qa, qb, qc, qd, fa, fb, fc, fd⟩ := H
  go_enter Try.func94, Try.ntmps94
  go_wp2
  go_still_tail 15, (by kernel_rfl)
  go_wp2
  rw [show (w.setCell ⟨g, 3, none⟩ (.int .u32 ((xa + (xb + n) % 4294967296) % 4294967296))).drew = w1 from J1.out.symm]
  clear hv ha hb hc hd qa qb qc qd fa fb fc fd
  obtain ⟨hv, ha, hb, hc, hd, qa, qb, qc, qd, fa, fb, fc, fd⟩ := R.out
  clear R
  refine wp_region_still_tail 18 (by kernel_rfl) (by kernel_rfl) ?_
  simp only [List.take_succ_cons, List.take_zero, List.drop_succ_cons, List.drop_zero]
  repeat still_step
  still_call (rot8 _ _)
  repeat still_step
  refine wpStill_nil ?_
  go_wp2
  rw [show (w1.setCell ⟨g, 15, none⟩ (.int .u32 (rot (Go.bits .xor .u32 xd (hA xa xb n)) 16777216 256))).drew = w2 from J2.out.symm]
  clear hv ha hb hc hd qa qb qc qd fa fb fc fd
  obtain ⟨hv, ha, hb, hc, hd, qa, qb, qc, qd, fa, fb, fc, fd⟩ := R2.out
  clear R2
  go_still_tail 13, (by kernel_rfl)
  go_wp2
  rw [show (w2.setCell ⟨g, 11, none⟩ (.int .u32 ((xc + hD xa xb xd n 16777216 256) % 4294967296))).drew = w3 from J3.out.symm]
  clear hv ha hb hc hd qa qb qc qd fa fb fc fd
  obtain ⟨hv, ha, hb, hc, hd, qa, qb, qc, qd, fa, fb, fc, fd⟩ := R3.out
  clear R3
  refine wp_region_still_tail 18 (by kernel_rfl) (by kernel_rfl) ?_
  simp only [List.take_succ_cons, List.take_zero, List.drop_succ_cons, List.drop_zero]
  repeat still_step
  still_call (rot7 _ _)
  repeat still_step
  refine wpStill_nil ?_
  go_wp2
  go_end0
  exact ⟨rfl, rfl⟩
end Go.Proofs.Ytoljjgabgdifbaa.H
