/- Parts of the proof: H0, H1, H2a, H2b, H2c, H2d. -/
import Derived.Test.YtoljjgabgdifbaaGreatDoorProg
import Derived.Below
import Derived.Deep.Draws
import Derived.Deep.AppendLies
import Derived.Maps.AppendAt
import Derived.OwnWalk
import Derived.Laws.BytesArg
import Derived.Laws.MakeOwn
import Derived.Laws.OwnMore
import Derived.Deep.OwnRows
import Derived.Tactics
import Derived.Lib.ConvBytes
import Derived.Laws.Slices
import Derived.WalkKit
import Derived.KernelRfl
import Derived.RowKit3
import Derived.Deep.LoopGhost
import Derived.Deep.QuietTactic
import Derived.BigQuiet
import Derived.WideLaws
import Derived.Deep.DeepCutAuto
import Derived.Deep.CutBlock
import Derived.Deep.RegionHeld3
import Derived.Laws.Rows
import Derived.Lib.AppendStr
import Derived.ArgAppend
import Derived.Laws.IdiomCopy
import Derived.OrdersHeld
import Derived.Laws.BitsLemmas
import Derived.RowKit
import Derived.Test.YtoljjgabgdifbaaGreatDoorZbWWords
import Derived.Test.YtoljjgabgdifbaaGreatDoorZbWLast
import Derived.Test.YtoljjgabgdifbaaGreatDoorZbWAparttoWRepsOne
import Derived.SizedLaws
import Derived.ChangeSlices
import Derived.StillTail
import Derived.StillTailTactics
import Derived.Deep.DeepFit
import Derived.Outline
import Derived.Lib.Hide
namespace Go.Proofs.YtoljjgabgdifbaaGreatDoor.H
open Go.RowKit Go.Proofs.YtoljjgabgdifbaaGreatDoorW.PrintWords Go.Proofs.YtoljjgabgdifbaaGreatDoorW.PrintLast
set_option linter.unusedVariables false
set_option linter.unusedSimpArgs false

/-- Block g is just these cells. -/
def Blk (w : World) (g : Nat) (t : TypeId) (cs : Array Value) : Prop := w.heap[g]? = some (.cells cs t (0, 0))

section
variable {w w' : World} {g : Nat} {t : TypeId} {cs : Array Value}
theorem Blk.lt (h : Blk w g t cs) : g < w.heap.size := by
  rcases Nat.lt_or_ge g w.heap.size with hlt | hge
  · exact hlt
  · unfold Blk at h; rw [Array.getElem?_eq_none hge] at h; cases h
theorem Blk.cell (h : Blk w g t cs) (i : Nat) : w.cell? ⟨g, i, none⟩ = cs[i]? := cell_of_row w g i cs t (0, 0) h
theorem Blk.frozen (h : Blk w g t cs) (i : Nat) : w.frozen? ⟨g, i, none⟩ = false := by
  unfold Blk at h
  simp [World.frozen?, h]
theorem Blk.new (w : World) (t : TypeId) (cs : Array Value) : Blk (w.alloc (.cells cs t)) w.heap.size t cs := heap_alloc_new w _
theorem Blk.drew (h : Blk w g t cs) : Blk w.drew g t cs := h
theorem Blk.drewN (h : Blk w g t cs) (n : Nat) : Blk (w.drewN n) g t cs := h
theorem Blk.alloc (h : Blk w g t cs) (o : Obj) : Blk (w.alloc o) g t cs := (Below.heap_alloc w o g h.lt).trans h
theorem Blk.set_ (h : Blk w g t cs) (i : Nat) (u : Value) : Blk (w.setCell ⟨g, i, none⟩ u) g t (cs.setIfInBounds i u) := by
  unfold Blk at h ⊢
  simp [World.setCell, Array.getElem?_modify, h]
theorem Blk.far (h : Blk w g t cs) {p : Addr} (hp : g ≠ p.block) (u : Value) : Blk (w.setCell p u) g t cs := (Below.heap_setCell w p u g hp).trans h
theorem Blk.below {B : Nat} (h : Blk w g t cs) (hb : Below B w w') (hg : g < B) : Blk w' g t cs := (hb.block g hg).trans h
theorem Blk.grown {row : Option Nat} (h : Blk w g t cs) (hb : w.grownBy w' row) (hg : some g ≠ row) : Blk w' g t cs := (hb.block g h.lt hg).trans h
end
end Go.Proofs.YtoljjgabgdifbaaGreatDoor.H

namespace Go.Proofs.YtoljjgabgdifbaaGreatDoor.H
open Go.RowKit Go.Proofs.YtoljjgabgdifbaaGreatDoorW.PrintWords Go.Proofs.YtoljjgabgdifbaaGreatDoorW.PrintLast
set_option linter.unusedVariables false
set_option linter.unusedSimpArgs false

/-- A number of 32 bits turned: p is 2 to the power of (32 - n), q is 2 to the power of n. -/
def rot (x p q : Int) : Int := Go.bits .or .u32 (x * p % 4294967296) (x / q)
theorem ret_int {k : IntKind} {a b : Int} (h : a = b) : Ending.returned (.int k a) = .returned (.int k b) := by rw [h]

theorem rot16 (x : Int) (w : World) : Calls Tryz.prog 81 #[.int .u32 x, .int .i64 (-16)] w fun e w' => e = .returned (.int .u32 (rot x 65536 65536)) ∧ w' = w := by
  have e1 : Go.bits BinOp.and IntKind.u64 (IntKind.u64.wrap (-16)) 31 = 16 := by decide +kernel
  go_enter Tryz.func81, Tryz.ntmps81
  go_wp2
  go_ret
  exact ⟨rfl, rfl⟩
theorem rot12 (x : Int) (w : World) : Calls Tryz.prog 81 #[.int .u32 x, .int .i64 (-12)] w fun e w' => e = .returned (.int .u32 (rot x 1048576 4096)) ∧ w' = w := by
  have e1 : Go.bits BinOp.and IntKind.u64 (IntKind.u64.wrap (-12)) 31 = 20 := by decide +kernel
  go_enter Tryz.func81, Tryz.ntmps81
  go_wp2
  go_ret
  exact ⟨rfl, rfl⟩
theorem rot8 (x : Int) (w : World) : Calls Tryz.prog 81 #[.int .u32 x, .int .i64 (-8)] w fun e w' => e = .returned (.int .u32 (rot x 16777216 256)) ∧ w' = w := by
  have e1 : Go.bits BinOp.and IntKind.u64 (IntKind.u64.wrap (-8)) 31 = 24 := by decide +kernel
  go_enter Tryz.func81, Tryz.ntmps81
  go_wp2
  go_ret
  exact ⟨rfl, rfl⟩
theorem rot7 (x : Int) (w : World) : Calls Tryz.prog 81 #[.int .u32 x, .int .i64 (-7)] w fun e w' => e = .returned (.int .u32 (rot x 33554432 128)) ∧ w' = w := by
  have e1 : Go.bits BinOp.and IntKind.u64 (IntKind.u64.wrap (-7)) 31 = 25 := by decide +kernel
  go_enter Tryz.func81, Tryz.ntmps81
  go_wp2
  go_ret
  exact ⟨rfl, rfl⟩

/-- What a half of a mixing asks of memory: the five boxes that it was handed, and the four numbers of block g. -/
structure HF (w : World) (g pv pa pb pc pd a b c d : Nat) (xa xb xc xd : Int) : Prop where
  hv : w.cell? ⟨pv, 0, none⟩ = some (.pointer (some ⟨g, 0, none⟩))
  ha : w.cell? ⟨pa, 0, none⟩ = some (.int .i64 a)
  hb : w.cell? ⟨pb, 0, none⟩ = some (.int .i64 b)
  hc : w.cell? ⟨pc, 0, none⟩ = some (.int .i64 c)
  hd : w.cell? ⟨pd, 0, none⟩ = some (.int .i64 d)
  qa : w.cell? ⟨g, a, none⟩ = some (.int .u32 xa)
  qb : w.cell? ⟨g, b, none⟩ = some (.int .u32 xb)
  qc : w.cell? ⟨g, c, none⟩ = some (.int .u32 xc)
  qd : w.cell? ⟨g, d, none⟩ = some (.int .u32 xd)
  fa : w.frozen? ⟨g, a, none⟩ = false
  fb : w.frozen? ⟨g, b, none⟩ = false
  fc : w.frozen? ⟨g, c, none⟩ = false
  fd : w.frozen? ⟨g, d, none⟩ = false
theorem other {w : World} {p q : Addr} {u v : Value} (h : w.cell? q = some u) (hne : q ≠ p) : (w.setCell p v).drew.cell? q = some u := (World.cell?_setCell_other w p q v (fun e => hne e.symm)).trans h
theorem same {w : World} {p : Addr} {u v : Value} (h : w.cell? p = some u) : (w.setCell p v).drew.cell? p = some v := World.cell?_setCell_same w p v h
theorem HF.set_a {w : World} {g pv pa pb pc pd a b c d : Nat} {xa xb xc xd : Int} (H : HF w g pv pa pb pc pd a b c d xa xb xc xd) (n1 : pv ≠ g) (n2 : pa ≠ g) (n3 : pb ≠ g) (n4 : pc ≠ g) (n5 : pd ≠ g) (y : Int) (mb : b ≠ a) (mc : c ≠ a) (md : d ≠ a) :
    HF ((w.setCell ⟨g, a, none⟩ (.int .u32 y)).drew) g pv pa pb pc pd a b c d y xb xc xd where
  hv := other H.hv (fun e => n1 (congrArg Addr.block e))
  ha := other H.ha (fun e => n2 (congrArg Addr.block e))
  hb := other H.hb (fun e => n3 (congrArg Addr.block e))
  hc := other H.hc (fun e => n4 (congrArg Addr.block e))
  hd := other H.hd (fun e => n5 (congrArg Addr.block e))
  qa := same H.qa
  qb := other H.qb (fun e => mb (congrArg Addr.off e))
  qc := other H.qc (fun e => mc (congrArg Addr.off e))
  qd := other H.qd (fun e => md (congrArg Addr.off e))
  fa := (World.frozen?_setCell w _ _ _).trans H.fa
  fb := (World.frozen?_setCell w _ _ _).trans H.fb
  fc := (World.frozen?_setCell w _ _ _).trans H.fc
  fd := (World.frozen?_setCell w _ _ _).trans H.fd
theorem HF.set_b {w : World} {g pv pa pb pc pd a b c d : Nat} {xa xb xc xd : Int} (H : HF w g pv pa pb pc pd a b c d xa xb xc xd) (n1 : pv ≠ g) (n2 : pa ≠ g) (n3 : pb ≠ g) (n4 : pc ≠ g) (n5 : pd ≠ g) (y : Int) (ma : a ≠ b) (mc : c ≠ b) (md : d ≠ b) :
    HF ((w.setCell ⟨g, b, none⟩ (.int .u32 y)).drew) g pv pa pb pc pd a b c d xa y xc xd where
  hv := other H.hv (fun e => n1 (congrArg Addr.block e))
  ha := other H.ha (fun e => n2 (congrArg Addr.block e))
  hb := other H.hb (fun e => n3 (congrArg Addr.block e))
  hc := other H.hc (fun e => n4 (congrArg Addr.block e))
  hd := other H.hd (fun e => n5 (congrArg Addr.block e))
  qa := other H.qa (fun e => ma (congrArg Addr.off e))
  qb := same H.qb
  qc := other H.qc (fun e => mc (congrArg Addr.off e))
  qd := other H.qd (fun e => md (congrArg Addr.off e))
  fa := (World.frozen?_setCell w _ _ _).trans H.fa
  fb := (World.frozen?_setCell w _ _ _).trans H.fb
  fc := (World.frozen?_setCell w _ _ _).trans H.fc
  fd := (World.frozen?_setCell w _ _ _).trans H.fd
theorem HF.set_c {w : World} {g pv pa pb pc pd a b c d : Nat} {xa xb xc xd : Int} (H : HF w g pv pa pb pc pd a b c d xa xb xc xd) (n1 : pv ≠ g) (n2 : pa ≠ g) (n3 : pb ≠ g) (n4 : pc ≠ g) (n5 : pd ≠ g) (y : Int) (ma : a ≠ c) (mb : b ≠ c) (md : d ≠ c) :
    HF ((w.setCell ⟨g, c, none⟩ (.int .u32 y)).drew) g pv pa pb pc pd a b c d xa xb y xd where
  hv := other H.hv (fun e => n1 (congrArg Addr.block e))
  ha := other H.ha (fun e => n2 (congrArg Addr.block e))
  hb := other H.hb (fun e => n3 (congrArg Addr.block e))
  hc := other H.hc (fun e => n4 (congrArg Addr.block e))
  hd := other H.hd (fun e => n5 (congrArg Addr.block e))
  qa := other H.qa (fun e => ma (congrArg Addr.off e))
  qb := other H.qb (fun e => mb (congrArg Addr.off e))
  qc := same H.qc
  qd := other H.qd (fun e => md (congrArg Addr.off e))
  fa := (World.frozen?_setCell w _ _ _).trans H.fa
  fb := (World.frozen?_setCell w _ _ _).trans H.fb
  fc := (World.frozen?_setCell w _ _ _).trans H.fc
  fd := (World.frozen?_setCell w _ _ _).trans H.fd
theorem HF.set_d {w : World} {g pv pa pb pc pd a b c d : Nat} {xa xb xc xd : Int} (H : HF w g pv pa pb pc pd a b c d xa xb xc xd) (n1 : pv ≠ g) (n2 : pa ≠ g) (n3 : pb ≠ g) (n4 : pc ≠ g) (n5 : pd ≠ g) (y : Int) (ma : a ≠ d) (mb : b ≠ d) (mc : c ≠ d) :
    HF ((w.setCell ⟨g, d, none⟩ (.int .u32 y)).drew) g pv pa pb pc pd a b c d xa xb xc y where
  hv := other H.hv (fun e => n1 (congrArg Addr.block e))
  ha := other H.ha (fun e => n2 (congrArg Addr.block e))
  hb := other H.hb (fun e => n3 (congrArg Addr.block e))
  hc := other H.hc (fun e => n4 (congrArg Addr.block e))
  hd := other H.hd (fun e => n5 (congrArg Addr.block e))
  qa := other H.qa (fun e => ma (congrArg Addr.off e))
  qb := other H.qb (fun e => mb (congrArg Addr.off e))
  qc := other H.qc (fun e => mc (congrArg Addr.off e))
  qd := same H.qd
  fa := (World.frozen?_setCell w _ _ _).trans H.fa
  fb := (World.frozen?_setCell w _ _ _).trans H.fb
  fc := (World.frozen?_setCell w _ _ _).trans H.fc
  fd := (World.frozen?_setCell w _ _ _).trans H.fd
/-- The four numbers behind half of a mixing. -/
def hA (xa xb n : Int) : Int := (xa + (xb + n) % 4294967296) % 4294967296
def hD (xa xb xd n p q : Int) : Int := rot (Go.bits .xor .u32 xd (hA xa xb n)) p q
def hC (xa xb xc xd n p q : Int) : Int := (xc + hD xa xb xd n p q) % 4294967296
def hB (xa xb xc xd n p q p' q' : Int) : Int := rot (Go.bits .xor .u32 xb (hC xa xb xc xd n p q)) p' q'
/-- The world behind half of a mixing. -/
def halfW (w : World) (g a b c d : Nat) (xa xb xc xd n p q p' q' : Int) : World :=
  (((((w.setCell ⟨g, a, none⟩ (.int .u32 (hA xa xb n))).drew.setCell ⟨g, d, none⟩ (.int .u32 (hD xa xb xd n p q))).drew.setCell ⟨g, c, none⟩ (.int .u32 (hC xa xb xc xd n p q))).drew).setCell ⟨g, b, none⟩ (.int .u32 (hB xa xb xc xd n p q p' q'))).drew
end Go.Proofs.YtoljjgabgdifbaaGreatDoor.H

namespace Go.Proofs.YtoljjgabgdifbaaGreatDoor.H
open Go.RowKit Go.Proofs.YtoljjgabgdifbaaGreatDoorW.PrintWords Go.Proofs.YtoljjgabgdifbaaGreatDoorW.PrintLast
set_option linter.unusedVariables false
set_option linter.unusedSimpArgs false
set_option maxRecDepth 100000 in
set_option maxHeartbeats 1000000 in
theorem half_0_4_0 {g pv pa pb pc pd : Nat} {xa xb xc xd : Int} (n : Int) {w : World} (H : HF w g pv pa pb pc pd 0 4 8 12 xa xb xc xd)
    (n1 : pv ≠ g) (n2 : pa ≠ g) (n3 : pb ≠ g) (n4 : pc ≠ g) (n5 : pd ≠ g) :
    Calls Tryz.prog 80 #[.int .u32 n, .int .i64 16, .int .i64 12, .pointer (some ⟨pv, 0, none⟩), .pointer (some ⟨pa, 0, none⟩), .pointer (some ⟨pb, 0, none⟩), .pointer (some ⟨pd, 0, none⟩), .pointer (some ⟨pc, 0, none⟩)] w
      fun e w' => e = .returned (.tuple #[]) ∧ w' = halfW w g 0 4 8 12 xa xb xc xd n 65536 65536 1048576 4096 := by
  have R := H.set_a n1 n2 n3 n4 n5 (hA xa xb n) (by decide) (by decide) (by decide)
  have R2 := R.set_d n1 n2 n3 n4 n5 (hD xa xb xd n 65536 65536) (by decide) (by decide) (by decide)
  have R3 := R2.set_c n1 n2 n3 n4 n5 (hC xa xb xc xd n 65536 65536) (by decide) (by decide) (by decide)
  unfold halfW
  obtain ⟨w1, hw1⟩ : ∃ x, x = (w.setCell ⟨g, 0, none⟩ (.int .u32 (hA xa xb n))).drew := ⟨_, rfl⟩
  rw [← hw1] at R R2 R3 ⊢
  obtain ⟨w2, hw2⟩ : ∃ x, x = (w1.setCell ⟨g, 12, none⟩ (.int .u32 (hD xa xb xd n 65536 65536))).drew := ⟨_, rfl⟩
  rw [← hw2] at R2 R3 ⊢
  obtain ⟨w3, hw3⟩ : ∃ x, x = (w2.setCell ⟨g, 8, none⟩ (.int .u32 (hC xa xb xc xd n 65536 65536))).drew := ⟨_, rfl⟩
  rw [← hw3] at R3 ⊢
  have J1 := Lib.hid hw1
  have J2 := Lib.hid hw2
  have J3 := Lib.hid hw3
  clear hw1 hw2 hw3
  have R := Aside0.mk R
  have R2 := Aside0.mk R2
  have R3 := Aside0.mk R3
  clear n1 n2 n3 n4 n5
  obtain ⟨hv, ha, hb, hc, hd, qa, qb, qc, qd, fa, fb, fc, fd⟩ := H
  go_enter Tryz.func80, Tryz.ntmps80
  go_wp2
  go_still_tail 15, (by kernel_rfl)
  go_wp2
  rw [show (w.setCell ⟨g, 0, none⟩ (.int .u32 ((xa + (xb + n) % 4294967296) % 4294967296))).drew = w1 from J1.out.symm]
  clear hv ha hb hc hd qa qb qc qd fa fb fc fd
  obtain ⟨hv, ha, hb, hc, hd, qa, qb, qc, qd, fa, fb, fc, fd⟩ := R.out
  clear R
  refine wp_region_still_tail 18 (by kernel_rfl) (by kernel_rfl) ?_
  simp only [List.take_succ_cons, List.take_zero, List.drop_succ_cons, List.drop_zero]
  repeat still_step
  still_call (rot16 _ _)
  repeat still_step
  refine wpStill_nil ?_
  go_wp2
  rw [show (w1.setCell ⟨g, 12, none⟩ (.int .u32 (rot (Go.bits .xor .u32 xd (hA xa xb n)) 65536 65536))).drew = w2 from J2.out.symm]
  clear hv ha hb hc hd qa qb qc qd fa fb fc fd
  obtain ⟨hv, ha, hb, hc, hd, qa, qb, qc, qd, fa, fb, fc, fd⟩ := R2.out
  clear R2
  go_still_tail 13, (by kernel_rfl)
  go_wp2
  rw [show (w2.setCell ⟨g, 8, none⟩ (.int .u32 ((xc + hD xa xb xd n 65536 65536) % 4294967296))).drew = w3 from J3.out.symm]
  clear hv ha hb hc hd qa qb qc qd fa fb fc fd
  obtain ⟨hv, ha, hb, hc, hd, qa, qb, qc, qd, fa, fb, fc, fd⟩ := R3.out
  clear R3
  refine wp_region_still_tail 18 (by kernel_rfl) (by kernel_rfl) ?_
  simp only [List.take_succ_cons, List.take_zero, List.drop_succ_cons, List.drop_zero]
  repeat still_step
  still_call (rot12 _ _)
  repeat still_step
  refine wpStill_nil ?_
  go_wp2
  go_end0
  exact ⟨rfl, rfl⟩
set_option maxRecDepth 100000 in
set_option maxHeartbeats 1000000 in
theorem half_0_4_1 {g pv pa pb pc pd : Nat} {xa xb xc xd : Int} (n : Int) {w : World} (H : HF w g pv pa pb pc pd 0 4 8 12 xa xb xc xd)
    (n1 : pv ≠ g) (n2 : pa ≠ g) (n3 : pb ≠ g) (n4 : pc ≠ g) (n5 : pd ≠ g) :
    Calls Tryz.prog 80 #[.int .u32 n, .int .i64 8, .int .i64 7, .pointer (some ⟨pv, 0, none⟩), .pointer (some ⟨pa, 0, none⟩), .pointer (some ⟨pb, 0, none⟩), .pointer (some ⟨pd, 0, none⟩), .pointer (some ⟨pc, 0, none⟩)] w
      fun e w' => e = .returned (.tuple #[]) ∧ w' = halfW w g 0 4 8 12 xa xb xc xd n 16777216 256 33554432 128 := by
  have R := H.set_a n1 n2 n3 n4 n5 (hA xa xb n) (by decide) (by decide) (by decide)
  have R2 := R.set_d n1 n2 n3 n4 n5 (hD xa xb xd n 16777216 256) (by decide) (by decide) (by decide)
  have R3 := R2.set_c n1 n2 n3 n4 n5 (hC xa xb xc xd n 16777216 256) (by decide) (by decide) (by decide)
  unfold halfW
  obtain ⟨w1, hw1⟩ : ∃ x, x = (w.setCell ⟨g, 0, none⟩ (.int .u32 (hA xa xb n))).drew := ⟨_, rfl⟩
  rw [← hw1] at R R2 R3 ⊢
  obtain ⟨w2, hw2⟩ : ∃ x, x = (w1.setCell ⟨g, 12, none⟩ (.int .u32 (hD xa xb xd n 16777216 256))).drew := ⟨_, rfl⟩
  rw [← hw2] at R2 R3 ⊢
  obtain ⟨w3, hw3⟩ : ∃ x, x = (w2.setCell ⟨g, 8, none⟩ (.int .u32 (hC xa xb xc xd n 16777216 256))).drew := ⟨_, rfl⟩
  rw [← hw3] at R3 ⊢
  have J1 := Lib.hid hw1
  have J2 := Lib.hid hw2
  have J3 := Lib.hid hw3
  clear hw1 hw2 hw3
  have R := Aside0.mk R
  have R2 := Aside0.mk R2
  have R3 := Aside0.mk R3
  clear n1 n2 n3 n4 n5
  obtain ⟨hv, ha, hb, hc, hd, qa, qb, qc, qd, fa, fb, fc, fd⟩ := H
  go_enter Tryz.func80, Tryz.ntmps80
  go_wp2
  go_still_tail 15, (by kernel_rfl)
  go_wp2
  rw [show (w.setCell ⟨g, 0, none⟩ (.int .u32 ((xa + (xb + n) % 4294967296) % 4294967296))).drew = w1 from J1.out.symm]
  clear hv ha hb hc hd qa qb qc qd fa fb fc fd
  obtain ⟨hv, ha, hb, hc, hd, qa, qb, qc, qd, fa, fb, fc, fd⟩ := R.out
  clear R
  refine wp_region_still_tail 18 (by kernel_rfl) (by kernel_rfl) ?_
  simp only [List.take_succ_cons, List.take_zero, List.drop_succ_cons, List.drop_zero]
  repeat still_step
  still_call (rot8 _ _)
  repeat still_step
  refine wpStill_nil ?_
  go_wp2
  rw [show (w1.setCell ⟨g, 12, none⟩ (.int .u32 (rot (Go.bits .xor .u32 xd (hA xa xb n)) 16777216 256))).drew = w2 from J2.out.symm]
  clear hv ha hb hc hd qa qb qc qd fa fb fc fd
  obtain ⟨hv, ha, hb, hc, hd, qa, qb, qc, qd, fa, fb, fc, fd⟩ := R2.out
  clear R2
  go_still_tail 13, (by kernel_rfl)
  go_wp2
  rw [show (w2.setCell ⟨g, 8, none⟩ (.int .u32 ((xc + hD xa xb xd n 16777216 256) % 4294967296))).drew = w3 from J3.out.symm]
  clear hv ha hb hc hd qa qb qc qd fa fb fc fd
  obtain ⟨hv, ha, hb, hc, hd, qa, qb, qc, qd, fa, fb, fc, fd⟩ := R3.out
  clear R3
  refine wp_region_still_tail 18 (by kernel_rfl) (by kernel_rfl) ?_
  simp only [List.take_succ_cons, List.take_zero, List.drop_succ_cons, List.drop_zero]
  repeat still_step
  still_call (rot7 _ _)
  repeat still_step
  refine wpStill_nil ?_
  go_wp2
  go_end0
  exact ⟨rfl, rfl⟩
set_option maxRecDepth 100000 in
set_option maxHeartbeats 1000000 in
theorem half_1_5_0 {g pv pa pb pc pd : Nat} {xa xb xc xd : Int} (n : Int) {w : World} (H : HF w g pv pa pb pc pd 1 5 9 13 xa xb xc xd)
    (n1 : pv ≠ g) (n2 : pa ≠ g) (n3 : pb ≠ g) (n4 : pc ≠ g) (n5 : pd ≠ g) :
    Calls Tryz.prog 80 #[.int .u32 n, .int .i64 16, .int .i64 12, .pointer (some ⟨pv, 0, none⟩), .pointer (some ⟨pa, 0, none⟩), .pointer (some ⟨pb, 0, none⟩), .pointer (some ⟨pd, 0, none⟩), .pointer (some ⟨pc, 0, none⟩)] w
      fun e w' => e = .returned (.tuple #[]) ∧ w' = halfW w g 1 5 9 13 xa xb xc xd n 65536 65536 1048576 4096 := by
  have R := H.set_a n1 n2 n3 n4 n5 (hA xa xb n) (by decide) (by decide) (by decide)
  have R2 := R.set_d n1 n2 n3 n4 n5 (hD xa xb xd n 65536 65536) (by decide) (by decide) (by decide)
  have R3 := R2.set_c n1 n2 n3 n4 n5 (hC xa xb xc xd n 65536 65536) (by decide) (by decide) (by decide)
  unfold halfW
  obtain ⟨w1, hw1⟩ : ∃ x, x = (w.setCell ⟨g, 1, none⟩ (.int .u32 (hA xa xb n))).drew := ⟨_, rfl⟩
  rw [← hw1] at R R2 R3 ⊢
  obtain ⟨w2, hw2⟩ : ∃ x, x = (w1.setCell ⟨g, 13, none⟩ (.int .u32 (hD xa xb xd n 65536 65536))).drew := ⟨_, rfl⟩
  rw [← hw2] at R2 R3 ⊢
  obtain ⟨w3, hw3⟩ : ∃ x, x = (w2.setCell ⟨g, 9, none⟩ (.int .u32 (hC xa xb xc xd n 65536 65536))).drew := ⟨_, rfl⟩
  rw [← hw3] at R3 ⊢
  have J1 := Lib.hid hw1
  have J2 := Lib.hid hw2
  have J3 := Lib.hid hw3
  clear hw1 hw2 hw3
  have R := Aside0.mk R
  have R2 := Aside0.mk R2
  have R3 := Aside0.mk R3
  clear n1 n2 n3 n4 n5
  obtain ⟨hv, ha, hb, hc, hd, qa, qb, qc, qd, fa, fb, fc, fd⟩ := H
  go_enter Tryz.func80, Tryz.ntmps80
  go_wp2
  go_still_tail 15, (by kernel_rfl)
  go_wp2
  rw [show (w.setCell ⟨g, 1, none⟩ (.int .u32 ((xa + (xb + n) % 4294967296) % 4294967296))).drew = w1 from J1.out.symm]
  clear hv ha hb hc hd qa qb qc qd fa fb fc fd
  obtain ⟨hv, ha, hb, hc, hd, qa, qb, qc, qd, fa, fb, fc, fd⟩ := R.out
  clear R
  refine wp_region_still_tail 18 (by kernel_rfl) (by kernel_rfl) ?_
  simp only [List.take_succ_cons, List.take_zero, List.drop_succ_cons, List.drop_zero]
  repeat still_step
  still_call (rot16 _ _)
  repeat still_step
  refine wpStill_nil ?_
  go_wp2
  rw [show (w1.setCell ⟨g, 13, none⟩ (.int .u32 (rot (Go.bits .xor .u32 xd (hA xa xb n)) 65536 65536))).drew = w2 from J2.out.symm]
  clear hv ha hb hc hd qa qb qc qd fa fb fc fd
  obtain ⟨hv, ha, hb, hc, hd, qa, qb, qc, qd, fa, fb, fc, fd⟩ := R2.out
  clear R2
  go_still_tail 13, (by kernel_rfl)
  go_wp2
  rw [show (w2.setCell ⟨g, 9, none⟩ (.int .u32 ((xc + hD xa xb xd n 65536 65536) % 4294967296))).drew = w3 from J3.out.symm]
  clear hv ha hb hc hd qa qb qc qd fa fb fc fd
  obtain ⟨hv, ha, hb, hc, hd, qa, qb, qc, qd, fa, fb, fc, fd⟩ := R3.out
  clear R3
  refine wp_region_still_tail 18 (by kernel_rfl) (by kernel_rfl) ?_
  simp only [List.take_succ_cons, List.take_zero, List.drop_succ_cons, List.drop_zero]
  repeat still_step
  still_call (rot12 _ _)
  repeat still_step
  refine wpStill_nil ?_
  go_wp2
  go_end0
  exact ⟨rfl, rfl⟩
set_option maxRecDepth 100000 in
set_option maxHeartbeats 1000000 in
theorem half_1_5_1 {g pv pa pb pc pd : Nat} {xa xb xc xd : Int} (n : Int) {w : World} (H : HF w g pv pa pb pc pd 1 5 9 13 xa xb xc xd)
    (n1 : pv ≠ g) (n2 : pa ≠ g) (n3 : pb ≠ g) (n4 : pc ≠ g) (n5 : pd ≠ g) :
    Calls Tryz.prog 80 #[.int .u32 n, .int .i64 8, .int .i64 7, .pointer (some ⟨pv, 0, none⟩), .pointer (some ⟨pa, 0, none⟩), .pointer (some ⟨pb, 0, none⟩), .pointer (some ⟨pd, 0, none⟩), .pointer (some ⟨pc, 0, none⟩)] w
      fun e w' => e = .returned (.tuple #[]) ∧ w' = halfW w g 1 5 9 13 xa xb xc xd n 16777216 256 33554432 128 := by
  have R := H.set_a n1 n2 n3 n4 n5 (hA xa xb n) (by decide) (by decide) (by decide)
  have R2 := R.set_d n1 n2 n3 n4 n5 (hD xa xb xd n 16777216 256) (by decide) (by decide) (by decide)
  have R3 := R2.set_c n1 n2 n3 n4 n5 (hC xa xb xc xd n 16777216 256) (by decide) (by decide) (by decide)
  unfold halfW
  obtain ⟨w1, hw1⟩ : ∃ x, x = (w.setCell ⟨g, 1, none⟩ (.int .u32 (hA xa xb n))).drew := ⟨_, rfl⟩
  rw [← hw1] at R R2 R3 ⊢
  obtain ⟨w2, hw2⟩ : ∃ x, x = (w1.setCell ⟨g, 13, none⟩ (.int .u32 (hD xa xb xd n 16777216 256))).drew := ⟨_, rfl⟩
  rw [← hw2] at R2 R3 ⊢
  obtain ⟨w3, hw3⟩ : ∃ x, x = (w2.setCell ⟨g, 9, none⟩ (.int .u32 (hC xa xb xc xd n 16777216 256))).drew := ⟨_, rfl⟩
  rw [← hw3] at R3 ⊢
  have J1 := Lib.hid hw1
  have J2 := Lib.hid hw2
  have J3 := Lib.hid hw3
  clear hw1 hw2 hw3
  have R := Aside0.mk R
  have R2 := Aside0.mk R2
  have R3 := Aside0.mk R3
  clear n1 n2 n3 n4 n5
  obtain ⟨hv, ha, hb, hc, hd, qa, qb, qc, qd, fa, fb, fc, fd⟩ := H
  go_enter Tryz.func80, Tryz.ntmps80
  go_wp2
  go_still_tail 15, (by kernel_rfl)
  go_wp2
  rw [show (w.setCell ⟨g, 1, none⟩ (.int .u32 ((xa + (xb + n) % 4294967296) % 4294967296))).drew = w1 from J1.out.symm]
  clear hv ha hb hc hd qa qb qc qd fa fb fc fd
  obtain ⟨hv, ha, hb, hc, hd, qa, qb, qc, qd, fa, fb, fc, fd⟩ := R.out
  clear R
  refine wp_region_still_tail 18 (by kernel_rfl) (by kernel_rfl) ?_
  simp only [List.take_succ_cons, List.take_zero, List.drop_succ_cons, List.drop_zero]
  repeat still_step
  still_call (rot8 _ _)
  repeat still_step
  refine wpStill_nil ?_
  go_wp2
  rw [show (w1.setCell ⟨g, 13, none⟩ (.int .u32 (rot (Go.bits .xor .u32 xd (hA xa xb n)) 16777216 256))).drew = w2 from J2.out.symm]
  clear hv ha hb hc hd qa qb qc qd fa fb fc fd
  obtain ⟨hv, ha, hb, hc, hd, qa, qb, qc, qd, fa, fb, fc, fd⟩ := R2.out
  clear R2
  go_still_tail 13, (by kernel_rfl)
  go_wp2
  rw [show (w2.setCell ⟨g, 9, none⟩ (.int .u32 ((xc + hD xa xb xd n 16777216 256) % 4294967296))).drew = w3 from J3.out.symm]
  clear hv ha hb hc hd qa qb qc qd fa fb fc fd
  obtain ⟨hv, ha, hb, hc, hd, qa, qb, qc, qd, fa, fb, fc, fd⟩ := R3.out
  clear R3
  refine wp_region_still_tail 18 (by kernel_rfl) (by kernel_rfl) ?_
  simp only [List.take_succ_cons, List.take_zero, List.drop_succ_cons, List.drop_zero]
  repeat still_step
  still_call (rot7 _ _)
  repeat still_step
  refine wpStill_nil ?_
  go_wp2
  go_end0
  exact ⟨rfl, rfl⟩
end Go.Proofs.YtoljjgabgdifbaaGreatDoor.H

namespace Go.Proofs.YtoljjgabgdifbaaGreatDoor.H
open Go.RowKit Go.Proofs.YtoljjgabgdifbaaGreatDoorW.PrintWords Go.Proofs.YtoljjgabgdifbaaGreatDoorW.PrintLast
set_option linter.unusedVariables false
set_option linter.unusedSimpArgs false
set_option maxRecDepth 100000 in
set_option maxHeartbeats 1000000 in
theorem half_2_6_0 {g pv pa pb pc pd : Nat} {xa xb xc xd : Int} (n : Int) {w : World} (H : HF w g pv pa pb pc pd 2 6 10 14 xa xb xc xd)
    (n1 : pv ≠ g) (n2 : pa ≠ g) (n3 : pb ≠ g) (n4 : pc ≠ g) (n5 : pd ≠ g) :
    Calls Tryz.prog 80 #[.int .u32 n, .int .i64 16, .int .i64 12, .pointer (some ⟨pv, 0, none⟩), .pointer (some ⟨pa, 0, none⟩), .pointer (some ⟨pb, 0, none⟩), .pointer (some ⟨pd, 0, none⟩), .pointer (some ⟨pc, 0, none⟩)] w
      fun e w' => e = .returned (.tuple #[]) ∧ w' = halfW w g 2 6 10 14 xa xb xc xd n 65536 65536 1048576 4096 := by
  have R := H.set_a n1 n2 n3 n4 n5 (hA xa xb n) (by decide) (by decide) (by decide)
  have R2 := R.set_d n1 n2 n3 n4 n5 (hD xa xb xd n 65536 65536) (by decide) (by decide) (by decide)
  have R3 := R2.set_c n1 n2 n3 n4 n5 (hC xa xb xc xd n 65536 65536) (by decide) (by decide) (by decide)
  unfold halfW
  obtain ⟨w1, hw1⟩ : ∃ x, x = (w.setCell ⟨g, 2, none⟩ (.int .u32 (hA xa xb n))).drew := ⟨_, rfl⟩
  rw [← hw1] at R R2 R3 ⊢
  obtain ⟨w2, hw2⟩ : ∃ x, x = (w1.setCell ⟨g, 14, none⟩ (.int .u32 (hD xa xb xd n 65536 65536))).drew := ⟨_, rfl⟩
  rw [← hw2] at R2 R3 ⊢
  obtain ⟨w3, hw3⟩ : ∃ x, x = (w2.setCell ⟨g, 10, none⟩ (.int .u32 (hC xa xb xc xd n 65536 65536))).drew := ⟨_, rfl⟩
  rw [← hw3] at R3 ⊢
  have J1 := Lib.hid hw1
  have J2 := Lib.hid hw2
  have J3 := Lib.hid hw3
  clear hw1 hw2 hw3
  have R := Aside0.mk R
  have R2 := Aside0.mk R2
  have R3 := Aside0.mk R3
  clear n1 n2 n3 n4 n5
  obtain ⟨hv, ha, hb, hc, hd, qa, qb, qc, qd, fa, fb, fc, fd⟩ := H
  go_enter Tryz.func80, Tryz.ntmps80
  go_wp2
  go_still_tail 15, (by kernel_rfl)
  go_wp2
  rw [show (w.setCell ⟨g, 2, none⟩ (.int .u32 ((xa + (xb + n) % 4294967296) % 4294967296))).drew = w1 from J1.out.symm]
  clear hv ha hb hc hd qa qb qc qd fa fb fc fd
  obtain ⟨hv, ha, hb, hc, hd, qa, qb, qc, qd, fa, fb, fc, fd⟩ := R.out
  clear R
  refine wp_region_still_tail 18 (by kernel_rfl) (by kernel_rfl) ?_
  simp only [List.take_succ_cons, List.take_zero, List.drop_succ_cons, List.drop_zero]
  repeat still_step
  still_call (rot16 _ _)
  repeat still_step
  refine wpStill_nil ?_
  go_wp2
  rw [show (w1.setCell ⟨g, 14, none⟩ (.int .u32 (rot (Go.bits .xor .u32 xd (hA xa xb n)) 65536 65536))).drew = w2 from J2.out.symm]
  clear hv ha hb hc hd qa qb qc qd fa fb fc fd
  obtain ⟨hv, ha, hb, hc, hd, qa, qb, qc, qd, fa, fb, fc, fd⟩ := R2.out
  clear R2
  go_still_tail 13, (by kernel_rfl)
  go_wp2
  rw [show (w2.setCell ⟨g, 10, none⟩ (.int .u32 ((xc + hD xa xb xd n 65536 65536) % 4294967296))).drew = w3 from J3.out.symm]
  clear hv ha hb hc hd qa qb qc qd fa fb fc fd
  obtain ⟨hv, ha, hb, hc, hd, qa, qb, qc, qd, fa, fb, fc, fd⟩ := R3.out
  clear R3
  refine wp_region_still_tail 18 (by kernel_rfl) (by kernel_rfl) ?_
  simp only [List.take_succ_cons, List.take_zero, List.drop_succ_cons, List.drop_zero]
  repeat still_step
  still_call (rot12 _ _)
  repeat still_step
  refine wpStill_nil ?_
  go_wp2
  go_end0
  exact ⟨rfl, rfl⟩
set_option maxRecDepth 100000 in
set_option maxHeartbeats 1000000 in
theorem half_2_6_1 {g pv pa pb pc pd : Nat} {xa xb xc xd : Int} (n : Int) {w : World} (H : HF w g pv pa pb pc pd 2 6 10 14 xa xb xc xd)
    (n1 : pv ≠ g) (n2 : pa ≠ g) (n3 : pb ≠ g) (n4 : pc ≠ g) (n5 : pd ≠ g) :
    Calls Tryz.prog 80 #[.int .u32 n, .int .i64 8, .int .i64 7, .pointer (some ⟨pv, 0, none⟩), .pointer (some ⟨pa, 0, none⟩), .pointer (some ⟨pb, 0, none⟩), .pointer (some ⟨pd, 0, none⟩), .pointer (some ⟨pc, 0, none⟩)] w
      fun e w' => e = .returned (.tuple #[]) ∧ w' = halfW w g 2 6 10 14 xa xb xc xd n 16777216 256 33554432 128 := by
  have R := H.set_a n1 n2 n3 n4 n5 (hA xa xb n) (by decide) (by decide) (by decide)
  have R2 := R.set_d n1 n2 n3 n4 n5 (hD xa xb xd n 16777216 256) (by decide) (by decide) (by decide)
  have R3 := R2.set_c n1 n2 n3 n4 n5 (hC xa xb xc xd n 16777216 256) (by decide) (by decide) (by decide)
  unfold halfW
  obtain ⟨w1, hw1⟩ : ∃ x, x = (w.setCell ⟨g, 2, none⟩ (.int .u32 (hA xa xb n))).drew := ⟨_, rfl⟩
  rw [← hw1] at R R2 R3 ⊢
  obtain ⟨w2, hw2⟩ : ∃ x, x = (w1.setCell ⟨g, 14, none⟩ (.int .u32 (hD xa xb xd n 16777216 256))).drew := ⟨_, rfl⟩
  rw [← hw2] at R2 R3 ⊢
  obtain ⟨w3, hw3⟩ : ∃ x, x = (w2.setCell ⟨g, 10, none⟩ (.int .u32 (hC xa xb xc xd n 16777216 256))).drew := ⟨_, rfl⟩
  rw [← hw3] at R3 ⊢
  have J1 := Lib.hid hw1
  have J2 := Lib.hid hw2
  have J3 := Lib.hid hw3
  clear hw1 hw2 hw3
  have R := Aside0.mk R
  have R2 := Aside0.mk R2
  have R3 := Aside0.mk R3
  clear n1 n2 n3 n4 n5
  obtain ⟨hv, ha, hb, hc, hd, qa, qb, qc, qd, fa, fb, fc, fd⟩ := H
  go_enter Tryz.func80, Tryz.ntmps80
  go_wp2
  go_still_tail 15, (by kernel_rfl)
  go_wp2
  rw [show (w.setCell ⟨g, 2, none⟩ (.int .u32 ((xa + (xb + n) % 4294967296) % 4294967296))).drew = w1 from J1.out.symm]
  clear hv ha hb hc hd qa qb qc qd fa fb fc fd
  obtain ⟨hv, ha, hb, hc, hd, qa, qb, qc, qd, fa, fb, fc, fd⟩ := R.out
  clear R
  refine wp_region_still_tail 18 (by kernel_rfl) (by kernel_rfl) ?_
  simp only [List.take_succ_cons, List.take_zero, List.drop_succ_cons, List.drop_zero]
  repeat still_step
  still_call (rot8 _ _)
  repeat still_step
  refine wpStill_nil ?_
  go_wp2
  rw [show (w1.setCell ⟨g, 14, none⟩ (.int .u32 (rot (Go.bits .xor .u32 xd (hA xa xb n)) 16777216 256))).drew = w2 from J2.out.symm]
  clear hv ha hb hc hd qa qb qc qd fa fb fc fd
  obtain ⟨hv, ha, hb, hc, hd, qa, qb, qc, qd, fa, fb, fc, fd⟩ := R2.out
  clear R2
  go_still_tail 13, (by kernel_rfl)
  go_wp2
  rw [show (w2.setCell ⟨g, 10, none⟩ (.int .u32 ((xc + hD xa xb xd n 16777216 256) % 4294967296))).drew = w3 from J3.out.symm]
  clear hv ha hb hc hd qa qb qc qd fa fb fc fd
  obtain ⟨hv, ha, hb, hc, hd, qa, qb, qc, qd, fa, fb, fc, fd⟩ := R3.out
  clear R3
  refine wp_region_still_tail 18 (by kernel_rfl) (by kernel_rfl) ?_
  simp only [List.take_succ_cons, List.take_zero, List.drop_succ_cons, List.drop_zero]
  repeat still_step
  still_call (rot7 _ _)
  repeat still_step
  refine wpStill_nil ?_
  go_wp2
  go_end0
  exact ⟨rfl, rfl⟩
set_option maxRecDepth 100000 in
set_option maxHeartbeats 1000000 in
theorem half_3_7_0 {g pv pa pb pc pd : Nat} {xa xb xc xd : Int} (n : Int) {w : World} (H : HF w g pv pa pb pc pd 3 7 11 15 xa xb xc xd)
    (n1 : pv ≠ g) (n2 : pa ≠ g) (n3 : pb ≠ g) (n4 : pc ≠ g) (n5 : pd ≠ g) :
    Calls Tryz.prog 80 #[.int .u32 n, .int .i64 16, .int .i64 12, .pointer (some ⟨pv, 0, none⟩), .pointer (some ⟨pa, 0, none⟩), .pointer (some ⟨pb, 0, none⟩), .pointer (some ⟨pd, 0, none⟩), .pointer (some ⟨pc, 0, none⟩)] w
      fun e w' => e = .returned (.tuple #[]) ∧ w' = halfW w g 3 7 11 15 xa xb xc xd n 65536 65536 1048576 4096 := by
  have R := H.set_a n1 n2 n3 n4 n5 (hA xa xb n) (by decide) (by decide) (by decide)
  have R2 := R.set_d n1 n2 n3 n4 n5 (hD xa xb xd n 65536 65536) (by decide) (by decide) (by decide)
  have R3 := R2.set_c n1 n2 n3 n4 n5 (hC xa xb xc xd n 65536 65536) (by decide) (by decide) (by decide)
  unfold halfW
  obtain ⟨w1, hw1⟩ : ∃ x, x = (w.setCell ⟨g, 3, none⟩ (.int .u32 (hA xa xb n))).drew := ⟨_, rfl⟩
  rw [← hw1] at R R2 R3 ⊢
  obtain ⟨w2, hw2⟩ : ∃ x, x = (w1.setCell ⟨g, 15, none⟩ (.int .u32 (hD xa xb xd n 65536 65536))).drew := ⟨_, rfl⟩
  rw [← hw2] at R2 R3 ⊢
  obtain ⟨w3, hw3⟩ : ∃ x, x = (w2.setCell ⟨g, 11, none⟩ (.int .u32 (hC xa xb xc xd n 65536 65536))).drew := ⟨_, rfl⟩
  rw [← hw3] at R3 ⊢
  have J1 := Lib.hid hw1
  have J2 := Lib.hid hw2
  have J3 := Lib.hid hw3
  clear hw1 hw2 hw3
  have R := Aside0.mk R
  have R2 := Aside0.mk R2
  have R3 := Aside0.mk R3
  clear n1 n2 n3 n4 n5
  obtain ⟨hv, ha, hb, hc, hd, qa, qb, qc, qd, fa, fb, fc, fd⟩ := H
  go_enter Tryz.func80, Tryz.ntmps80
  go_wp2
  go_still_tail 15, (by kernel_rfl)
  go_wp2
  rw [show (w.setCell ⟨g, 3, none⟩ (.int .u32 ((xa + (xb + n) % 4294967296) % 4294967296))).drew = w1 from J1.out.symm]
  clear hv ha hb hc hd qa qb qc qd fa fb fc fd
  obtain ⟨hv, ha, hb, hc, hd, qa, qb, qc, qd, fa, fb, fc, fd⟩ := R.out
  clear R
  refine wp_region_still_tail 18 (by kernel_rfl) (by kernel_rfl) ?_
  simp only [List.take_succ_cons, List.take_zero, List.drop_succ_cons, List.drop_zero]
  repeat still_step
  still_call (rot16 _ _)
  repeat still_step
  refine wpStill_nil ?_
  go_wp2
  rw [show (w1.setCell ⟨g, 15, none⟩ (.int .u32 (rot (Go.bits .xor .u32 xd (hA xa xb n)) 65536 65536))).drew = w2 from J2.out.symm]
  clear hv ha hb hc hd qa qb qc qd fa fb fc fd
  obtain ⟨hv, ha, hb, hc, hd, qa, qb, qc, qd, fa, fb, fc, fd⟩ := R2.out
  clear R2
  go_still_tail 13, (by kernel_rfl)
  go_wp2
  rw [show (w2.setCell ⟨g, 11, none⟩ (.int .u32 ((xc + hD xa xb xd n 65536 65536) % 4294967296))).drew = w3 from J3.out.symm]
  clear hv ha hb hc hd qa qb qc qd fa fb fc fd
  obtain ⟨hv, ha, hb, hc, hd, qa, qb, qc, qd, fa, fb, fc, fd⟩ := R3.out
  clear R3
  refine wp_region_still_tail 18 (by kernel_rfl) (by kernel_rfl) ?_
  simp only [List.take_succ_cons, List.take_zero, List.drop_succ_cons, List.drop_zero]
  repeat still_step
  still_call (rot12 _ _)
  repeat still_step
  refine wpStill_nil ?_
  go_wp2
  go_end0
  exact ⟨rfl, rfl⟩
set_option maxRecDepth 100000 in
set_option maxHeartbeats 1000000 in
theorem half_3_7_1 {g pv pa pb pc pd : Nat} {xa xb xc xd : Int} (n : Int) {w : World} (H : HF w g pv pa pb pc pd 3 7 11 15 xa xb xc xd)
    (n1 : pv ≠ g) (n2 : pa ≠ g) (n3 : pb ≠ g) (n4 : pc ≠ g) (n5 : pd ≠ g) :
    Calls Tryz.prog 80 #[.int .u32 n, .int .i64 8, .int .i64 7, .pointer (some ⟨pv, 0, none⟩), .pointer (some ⟨pa, 0, none⟩), .pointer (some ⟨pb, 0, none⟩), .pointer (some ⟨pd, 0, none⟩), .pointer (some ⟨pc, 0, none⟩)] w
      fun e w' => e = .returned (.tuple #[]) ∧ w' = halfW w g 3 7 11 15 xa xb xc xd n 16777216 256 33554432 128 := by
  have R := H.set_a n1 n2 n3 n4 n5 (hA xa xb n) (by decide) (by decide) (by decide)
  have R2 := R.set_d n1 n2 n3 n4 n5 (hD xa xb xd n 16777216 256) (by decide) (by decide) (by decide)
  have R3 := R2.set_c n1 n2 n3 n4 n5 (hC xa xb xc xd n 16777216 256) (by decide) (by decide) (by decide)
  unfold halfW
  obtain ⟨w1, hw1⟩ : ∃ x, x = (w.setCell ⟨g, 3, none⟩ (.int .u32 (hA xa xb n))).drew := ⟨_, rfl⟩
  rw [← hw1] at R R2 R3 ⊢
  obtain ⟨w2, hw2⟩ : ∃ x, x = (w1.setCell ⟨g, 15, none⟩ (.int .u32 (hD xa xb xd n 16777216 256))).drew := ⟨_, rfl⟩
  rw [← hw2] at R2 R3 ⊢
  obtain ⟨w3, hw3⟩ : ∃ x, x = (w2.setCell ⟨g, 11, none⟩ (.int .u32 (hC xa xb xc xd n 16777216 256))).drew := ⟨_, rfl⟩
  rw [← hw3] at R3 ⊢
  have J1 := Lib.hid hw1
  have J2 := Lib.hid hw2
  have J3 := Lib.hid hw3
  clear hw1 hw2 hw3
  have R := Aside0.mk R
  have R2 := Aside0.mk R2
  have R3 := Aside0.mk R3
  clear n1 n2 n3 n4 n5
  obtain ⟨hv, ha, hb, hc, hd, qa, qb, qc, qd, fa, fb, fc, fd⟩ := H
  go_enter Tryz.func80, Tryz.ntmps80
  go_wp2
  go_still_tail 15, (by kernel_rfl)
  go_wp2
  rw [show (w.setCell ⟨g, 3, none⟩ (.int .u32 ((xa + (xb + n) % 4294967296) % 4294967296))).drew = w1 from J1.out.symm]
  clear hv ha hb hc hd qa qb qc qd fa fb fc fd
  obtain ⟨hv, ha, hb, hc, hd, qa, qb, qc, qd, fa, fb, fc, fd⟩ := R.out
  clear R
  refine wp_region_still_tail 18 (by kernel_rfl) (by kernel_rfl) ?_
  simp only [List.take_succ_cons, List.take_zero, List.drop_succ_cons, List.drop_zero]
  repeat still_step
  still_call (rot8 _ _)
  repeat still_step
  refine wpStill_nil ?_
  go_wp2
  rw [show (w1.setCell ⟨g, 15, none⟩ (.int .u32 (rot (Go.bits .xor .u32 xd (hA xa xb n)) 16777216 256))).drew = w2 from J2.out.symm]
  clear hv ha hb hc hd qa qb qc qd fa fb fc fd
  obtain ⟨hv, ha, hb, hc, hd, qa, qb, qc, qd, fa, fb, fc, fd⟩ := R2.out
  clear R2
  go_still_tail 13, (by kernel_rfl)
  go_wp2
  rw [show (w2.setCell ⟨g, 11, none⟩ (.int .u32 ((xc + hD xa xb xd n 16777216 256) % 4294967296))).drew = w3 from J3.out.symm]
  clear hv ha hb hc hd qa qb qc qd fa fb fc fd
  obtain ⟨hv, ha, hb, hc, hd, qa, qb, qc, qd, fa, fb, fc, fd⟩ := R3.out
  clear R3
  refine wp_region_still_tail 18 (by kernel_rfl) (by kernel_rfl) ?_
  simp only [List.take_succ_cons, List.take_zero, List.drop_succ_cons, List.drop_zero]
  repeat still_step
  still_call (rot7 _ _)
  repeat still_step
  refine wpStill_nil ?_
  go_wp2
  go_end0
  exact ⟨rfl, rfl⟩
end Go.Proofs.YtoljjgabgdifbaaGreatDoor.H

namespace Go.Proofs.YtoljjgabgdifbaaGreatDoor.H
open Go.RowKit Go.Proofs.YtoljjgabgdifbaaGreatDoorW.PrintWords Go.Proofs.YtoljjgabgdifbaaGreatDoorW.PrintLast
set_option linter.unusedVariables false
set_option linter.unusedSimpArgs false
set_option maxRecDepth 100000 in
set_option maxHeartbeats 1000000 in
theorem half_0_5_0 {g pv pa pb pc pd : Nat} {xa xb xc xd : Int} (n : Int) {w : World} (H : HF w g pv pa pb pc pd 0 5 10 15 xa xb xc xd)
    (n1 : pv ≠ g) (n2 : pa ≠ g) (n3 : pb ≠ g) (n4 : pc ≠ g) (n5 : pd ≠ g) :
    Calls Tryz.prog 80 #[.int .u32 n, .int .i64 16, .int .i64 12, .pointer (some ⟨pv, 0, none⟩), .pointer (some ⟨pa, 0, none⟩), .pointer (some ⟨pb, 0, none⟩), .pointer (some ⟨pd, 0, none⟩), .pointer (some ⟨pc, 0, none⟩)] w
      fun e w' => e = .returned (.tuple #[]) ∧ w' = halfW w g 0 5 10 15 xa xb xc xd n 65536 65536 1048576 4096 := by
  have R := H.set_a n1 n2 n3 n4 n5 (hA xa xb n) (by decide) (by decide) (by decide)
  have R2 := R.set_d n1 n2 n3 n4 n5 (hD xa xb xd n 65536 65536) (by decide) (by decide) (by decide)
  have R3 := R2.set_c n1 n2 n3 n4 n5 (hC xa xb xc xd n 65536 65536) (by decide) (by decide) (by decide)
  unfold halfW
  obtain ⟨w1, hw1⟩ : ∃ x, x = (w.setCell ⟨g, 0, none⟩ (.int .u32 (hA xa xb n))).drew := ⟨_, rfl⟩
  rw [← hw1] at R R2 R3 ⊢
  obtain ⟨w2, hw2⟩ : ∃ x, x = (w1.setCell ⟨g, 15, none⟩ (.int .u32 (hD xa xb xd n 65536 65536))).drew := ⟨_, rfl⟩
  rw [← hw2] at R2 R3 ⊢
  obtain ⟨w3, hw3⟩ : ∃ x, x = (w2.setCell ⟨g, 10, none⟩ (.int .u32 (hC xa xb xc xd n 65536 65536))).drew := ⟨_, rfl⟩
  rw [← hw3] at R3 ⊢
  have J1 := Lib.hid hw1
  have J2 := Lib.hid hw2
  have J3 := Lib.hid hw3
  clear hw1 hw2 hw3
  have R := Aside0.mk R
  have R2 := Aside0.mk R2
  have R3 := Aside0.mk R3
  clear n1 n2 n3 n4 n5
  obtain ⟨hv, ha, hb, hc, hd, qa, qb, qc, qd, fa, fb, fc, fd⟩ := H
  go_enter Tryz.func80, Tryz.ntmps80
  go_wp2
  go_still_tail 15, (by kernel_rfl)
  go_wp2
  rw [show (w.setCell ⟨g, 0, none⟩ (.int .u32 ((xa + (xb + n) % 4294967296) % 4294967296))).drew = w1 from J1.out.symm]
  clear hv ha hb hc hd qa qb qc qd fa fb fc fd
  obtain ⟨hv, ha, hb, hc, hd, qa, qb, qc, qd, fa, fb, fc, fd⟩ := R.out
  clear R
  refine wp_region_still_tail 18 (by kernel_rfl) (by kernel_rfl) ?_
  simp only [List.take_succ_cons, List.take_zero, List.drop_succ_cons, List.drop_zero]
  repeat still_step
  still_call (rot16 _ _)
  repeat still_step
  refine wpStill_nil ?_
  go_wp2
  rw [show (w1.setCell ⟨g, 15, none⟩ (.int .u32 (rot (Go.bits .xor .u32 xd (hA xa xb n)) 65536 65536))).drew = w2 from J2.out.symm]
  clear hv ha hb hc hd qa qb qc qd fa fb fc fd
  obtain ⟨hv, ha, hb, hc, hd, qa, qb, qc, qd, fa, fb, fc, fd⟩ := R2.out
  clear R2
  go_still_tail 13, (by kernel_rfl)
  go_wp2
  rw [show (w2.setCell ⟨g, 10, none⟩ (.int .u32 ((xc + hD xa xb xd n 65536 65536) % 4294967296))).drew = w3 from J3.out.symm]
  clear hv ha hb hc hd qa qb qc qd fa fb fc fd
  obtain ⟨hv, ha, hb, hc, hd, qa, qb, qc, qd, fa, fb, fc, fd⟩ := R3.out
  clear R3
  refine wp_region_still_tail 18 (by kernel_rfl) (by kernel_rfl) ?_
  simp only [List.take_succ_cons, List.take_zero, List.drop_succ_cons, List.drop_zero]
  repeat still_step
  still_call (rot12 _ _)
  repeat still_step
  refine wpStill_nil ?_
  go_wp2
  go_end0
  exact ⟨rfl, rfl⟩
set_option maxRecDepth 100000 in
set_option maxHeartbeats 1000000 in
theorem half_0_5_1 {g pv pa pb pc pd : Nat} {xa xb xc xd : Int} (n : Int) {w : World} (H : HF w g pv pa pb pc pd 0 5 10 15 xa xb xc xd)
    (n1 : pv ≠ g) (n2 : pa ≠ g) (n3 : pb ≠ g) (n4 : pc ≠ g) (n5 : pd ≠ g) :
    Calls Tryz.prog 80 #[.int .u32 n, .int .i64 8, .int .i64 7, .pointer (some ⟨pv, 0, none⟩), .pointer (some ⟨pa, 0, none⟩), .pointer (some ⟨pb, 0, none⟩), .pointer (some ⟨pd, 0, none⟩), .pointer (some ⟨pc, 0, none⟩)] w
      fun e w' => e = .returned (.tuple #[]) ∧ w' = halfW w g 0 5 10 15 xa xb xc xd n 16777216 256 33554432 128 := by
  have R := H.set_a n1 n2 n3 n4 n5 (hA xa xb n) (by decide) (by decide) (by decide)
  have R2 := R.set_d n1 n2 n3 n4 n5 (hD xa xb xd n 16777216 256) (by decide) (by decide) (by decide)
  have R3 := R2.set_c n1 n2 n3 n4 n5 (hC xa xb xc xd n 16777216 256) (by decide) (by decide) (by decide)
  unfold halfW
  obtain ⟨w1, hw1⟩ : ∃ x, x = (w.setCell ⟨g, 0, none⟩ (.int .u32 (hA xa xb n))).drew := ⟨_, rfl⟩
  rw [← hw1] at R R2 R3 ⊢
  obtain ⟨w2, hw2⟩ : ∃ x, x = (w1.setCell ⟨g, 15, none⟩ (.int .u32 (hD xa xb xd n 16777216 256))).drew := ⟨_, rfl⟩
  rw [← hw2] at R2 R3 ⊢
  obtain ⟨w3, hw3⟩ : ∃ x, x = (w2.setCell ⟨g, 10, none⟩ (.int .u32 (hC xa xb xc xd n 16777216 256))).drew := ⟨_, rfl⟩
  rw [← hw3] at R3 ⊢
  have J1 := Lib.hid hw1
  have J2 := Lib.hid hw2
  have J3 := Lib.hid hw3
  clear hw1 hw2 hw3
  have R := Aside0.mk R
  have R2 := Aside0.mk R2
  have R3 := Aside0.mk R3
  clear n1 n2 n3 n4 n5
  obtain ⟨hv, ha, hb, hc, hd, qa, qb, qc, qd, fa, fb, fc, fd⟩ := H
  go_enter Tryz.func80, Tryz.ntmps80
  go_wp2
  go_still_tail 15, (by kernel_rfl)
  go_wp2
  rw [show (w.setCell ⟨g, 0, none⟩ (.int .u32 ((xa + (xb + n) % 4294967296) % 4294967296))).drew = w1 from J1.out.symm]
  clear hv ha hb hc hd qa qb qc qd fa fb fc fd
  obtain ⟨hv, ha, hb, hc, hd, qa, qb, qc, qd, fa, fb, fc, fd⟩ := R.out
  clear R
  refine wp_region_still_tail 18 (by kernel_rfl) (by kernel_rfl) ?_
  simp only [List.take_succ_cons, List.take_zero, List.drop_succ_cons, List.drop_zero]
  repeat still_step
  still_call (rot8 _ _)
  repeat still_step
  refine wpStill_nil ?_
  go_wp2
  rw [show (w1.setCell ⟨g, 15, none⟩ (.int .u32 (rot (Go.bits .xor .u32 xd (hA xa xb n)) 16777216 256))).drew = w2 from J2.out.symm]
  clear hv ha hb hc hd qa qb qc qd fa fb fc fd
  obtain ⟨hv, ha, hb, hc, hd, qa, qb, qc, qd, fa, fb, fc, fd⟩ := R2.out
  clear R2
  go_still_tail 13, (by kernel_rfl)
  go_wp2
  rw [show (w2.setCell ⟨g, 10, none⟩ (.int .u32 ((xc + hD xa xb xd n 16777216 256) % 4294967296))).drew = w3 from J3.out.symm]
  clear hv ha hb hc hd qa qb qc qd fa fb fc fd
  obtain ⟨hv, ha, hb, hc, hd, qa, qb, qc, qd, fa, fb, fc, fd⟩ := R3.out
  clear R3
  refine wp_region_still_tail 18 (by kernel_rfl) (by kernel_rfl) ?_
  simp only [List.take_succ_cons, List.take_zero, List.drop_succ_cons, List.drop_zero]
  repeat still_step
  still_call (rot7 _ _)
  repeat still_step
  refine wpStill_nil ?_
  go_wp2
  go_end0
  exact ⟨rfl, rfl⟩
set_option maxRecDepth 100000 in
set_option maxHeartbeats 1000000 in
theorem half_1_6_0 {g pv pa pb pc pd : Nat} {xa xb xc xd : Int} (n : Int) {w : World} (H : HF w g pv pa pb pc pd 1 6 11 12 xa xb xc xd)
    (n1 : pv ≠ g) (n2 : pa ≠ g) (n3 : pb ≠ g) (n4 : pc ≠ g) (n5 : pd ≠ g) :
    Calls Tryz.prog 80 #[.int .u32 n, .int .i64 16, .int .i64 12, .pointer (some ⟨pv, 0, none⟩), .pointer (some ⟨pa, 0, none⟩), .pointer (some ⟨pb, 0, none⟩), .pointer (some ⟨pd, 0, none⟩), .pointer (some ⟨pc, 0, none⟩)] w
      fun e w' => e = .returned (.tuple #[]) ∧ w' = halfW w g 1 6 11 12 xa xb xc xd n 65536 65536 1048576 4096 := by
  have R := H.set_a n1 n2 n3 n4 n5 (hA xa xb n) (by decide) (by decide) (by decide)
  have R2 := R.set_d n1 n2 n3 n4 n5 (hD xa xb xd n 65536 65536) (by decide) (by decide) (by decide)
  have R3 := R2.set_c n1 n2 n3 n4 n5 (hC xa xb xc xd n 65536 65536) (by decide) (by decide) (by decide)
  unfold halfW
  obtain ⟨w1, hw1⟩ : ∃ x, x = (w.setCell ⟨g, 1, none⟩ (.int .u32 (hA xa xb n))).drew := ⟨_, rfl⟩
  rw [← hw1] at R R2 R3 ⊢
  obtain ⟨w2, hw2⟩ : ∃ x, x = (w1.setCell ⟨g, 12, none⟩ (.int .u32 (hD xa xb xd n 65536 65536))).drew := ⟨_, rfl⟩
  rw [← hw2] at R2 R3 ⊢
  obtain ⟨w3, hw3⟩ : ∃ x, x = (w2.setCell ⟨g, 11, none⟩ (.int .u32 (hC xa xb xc xd n 65536 65536))).drew := ⟨_, rfl⟩
  rw [← hw3] at R3 ⊢
  have J1 := Lib.hid hw1
  have J2 := Lib.hid hw2
  have J3 := Lib.hid hw3
  clear hw1 hw2 hw3
  have R := Aside0.mk R
  have R2 := Aside0.mk R2
  have R3 := Aside0.mk R3
  clear n1 n2 n3 n4 n5
  obtain ⟨hv, ha, hb, hc, hd, qa, qb, qc, qd, fa, fb, fc, fd⟩ := H
  go_enter Tryz.func80, Tryz.ntmps80
  go_wp2
  go_still_tail 15, (by kernel_rfl)
  go_wp2
  rw [show (w.setCell ⟨g, 1, none⟩ (.int .u32 ((xa + (xb + n) % 4294967296) % 4294967296))).drew = w1 from J1.out.symm]
  clear hv ha hb hc hd qa qb qc qd fa fb fc fd
  obtain ⟨hv, ha, hb, hc, hd, qa, qb, qc, qd, fa, fb, fc, fd⟩ := R.out
  clear R
  refine wp_region_still_tail 18 (by kernel_rfl) (by kernel_rfl) ?_
  simp only [List.take_succ_cons, List.take_zero, List.drop_succ_cons, List.drop_zero]
  repeat still_step
  still_call (rot16 _ _)
  repeat still_step
  refine wpStill_nil ?_
  go_wp2
  rw [show (w1.setCell ⟨g, 12, none⟩ (.int .u32 (rot (Go.bits .xor .u32 xd (hA xa xb n)) 65536 65536))).drew = w2 from J2.out.symm]
  clear hv ha hb hc hd qa qb qc qd fa fb fc fd
  obtain ⟨hv, ha, hb, hc, hd, qa, qb, qc, qd, fa, fb, fc, fd⟩ := R2.out
  clear R2
  go_still_tail 13, (by kernel_rfl)
  go_wp2
  rw [show (w2.setCell ⟨g, 11, none⟩ (.int .u32 ((xc + hD xa xb xd n 65536 65536) % 4294967296))).drew = w3 from J3.out.symm]
  clear hv ha hb hc hd qa qb qc qd fa fb fc fd
  obtain ⟨hv, ha, hb, hc, hd, qa, qb, qc, qd, fa, fb, fc, fd⟩ := R3.out
  clear R3
  refine wp_region_still_tail 18 (by kernel_rfl) (by kernel_rfl) ?_
  simp only [List.take_succ_cons, List.take_zero, List.drop_succ_cons, List.drop_zero]
  repeat still_step
  still_call (rot12 _ _)
  repeat still_step
  refine wpStill_nil ?_
  go_wp2
  go_end0
  exact ⟨rfl, rfl⟩
set_option maxRecDepth 100000 in
set_option maxHeartbeats 1000000 in
theorem half_1_6_1 {g pv pa pb pc pd : Nat} {xa xb xc xd : Int} (n : Int) {w : World} (H : HF w g pv pa pb pc pd 1 6 11 12 xa xb xc xd)
    (n1 : pv ≠ g) (n2 : pa ≠ g) (n3 : pb ≠ g) (n4 : pc ≠ g) (n5 : pd ≠ g) :
    Calls Tryz.prog 80 #[.int .u32 n, .int .i64 8, .int .i64 7, .pointer (some ⟨pv, 0, none⟩), .pointer (some ⟨pa, 0, none⟩), .pointer (some ⟨pb, 0, none⟩), .pointer (some ⟨pd, 0, none⟩), .pointer (some ⟨pc, 0, none⟩)] w
      fun e w' => e = .returned (.tuple #[]) ∧ w' = halfW w g 1 6 11 12 xa xb xc xd n 16777216 256 33554432 128 := by
  have R := H.set_a n1 n2 n3 n4 n5 (hA xa xb n) (by decide) (by decide) (by decide)
  have R2 := R.set_d n1 n2 n3 n4 n5 (hD xa xb xd n 16777216 256) (by decide) (by decide) (by decide)
  have R3 := R2.set_c n1 n2 n3 n4 n5 (hC xa xb xc xd n 16777216 256) (by decide) (by decide) (by decide)
  unfold halfW
  obtain ⟨w1, hw1⟩ : ∃ x, x = (w.setCell ⟨g, 1, none⟩ (.int .u32 (hA xa xb n))).drew := ⟨_, rfl⟩
  rw [← hw1] at R R2 R3 ⊢
  obtain ⟨w2, hw2⟩ : ∃ x, x = (w1.setCell ⟨g, 12, none⟩ (.int .u32 (hD xa xb xd n 16777216 256))).drew := ⟨_, rfl⟩
  rw [← hw2] at R2 R3 ⊢
  obtain ⟨w3, hw3⟩ : ∃ x, x = (w2.setCell ⟨g, 11, none⟩ (.int .u32 (hC xa xb xc xd n 16777216 256))).drew := ⟨_, rfl⟩
  rw [← hw3] at R3 ⊢
  have J1 := Lib.hid hw1
  have J2 := Lib.hid hw2
  have J3 := Lib.hid hw3
  clear hw1 hw2 hw3
  have R := Aside0.mk R
  have R2 := Aside0.mk R2
  have R3 := Aside0.mk R3
  clear n1 n2 n3 n4 n5
  obtain ⟨hv, ha, hb, hc, hd, qa, qb, qc, qd, fa, fb, fc, fd⟩ := H
  go_enter Tryz.func80, Tryz.ntmps80
  go_wp2
  go_still_tail 15, (by kernel_rfl)
  go_wp2
  rw [show (w.setCell ⟨g, 1, none⟩ (.int .u32 ((xa + (xb + n) % 4294967296) % 4294967296))).drew = w1 from J1.out.symm]
  clear hv ha hb hc hd qa qb qc qd fa fb fc fd
  obtain ⟨hv, ha, hb, hc, hd, qa, qb, qc, qd, fa, fb, fc, fd⟩ := R.out
  clear R
  refine wp_region_still_tail 18 (by kernel_rfl) (by kernel_rfl) ?_
  simp only [List.take_succ_cons, List.take_zero, List.drop_succ_cons, List.drop_zero]
  repeat still_step
  still_call (rot8 _ _)
  repeat still_step
  refine wpStill_nil ?_
  go_wp2
  rw [show (w1.setCell ⟨g, 12, none⟩ (.int .u32 (rot (Go.bits .xor .u32 xd (hA xa xb n)) 16777216 256))).drew = w2 from J2.out.symm]
  clear hv ha hb hc hd qa qb qc qd fa fb fc fd
  obtain ⟨hv, ha, hb, hc, hd, qa, qb, qc, qd, fa, fb, fc, fd⟩ := R2.out
  clear R2
  go_still_tail 13, (by kernel_rfl)
  go_wp2
  rw [show (w2.setCell ⟨g, 11, none⟩ (.int .u32 ((xc + hD xa xb xd n 16777216 256) % 4294967296))).drew = w3 from J3.out.symm]
  clear hv ha hb hc hd qa qb qc qd fa fb fc fd
  obtain ⟨hv, ha, hb, hc, hd, qa, qb, qc, qd, fa, fb, fc, fd⟩ := R3.out
  clear R3
  refine wp_region_still_tail 18 (by kernel_rfl) (by kernel_rfl) ?_
  simp only [List.take_succ_cons, List.take_zero, List.drop_succ_cons, List.drop_zero]
  repeat still_step
  still_call (rot7 _ _)
  repeat still_step
  refine wpStill_nil ?_
  go_wp2
  go_end0
  exact ⟨rfl, rfl⟩
end Go.Proofs.YtoljjgabgdifbaaGreatDoor.H

namespace Go.Proofs.YtoljjgabgdifbaaGreatDoor.H
open Go.RowKit Go.Proofs.YtoljjgabgdifbaaGreatDoorW.PrintWords Go.Proofs.YtoljjgabgdifbaaGreatDoorW.PrintLast
set_option linter.unusedVariables false
set_option linter.unusedSimpArgs false
set_option maxRecDepth 100000 in
set_option maxHeartbeats 1000000 in
theorem half_2_7_0 {g pv pa pb pc pd : Nat} {xa xb xc xd : Int} (n : Int) {w : World} (H : HF w g pv pa pb pc pd 2 7 8 13 xa xb xc xd)
    (n1 : pv ≠ g) (n2 : pa ≠ g) (n3 : pb ≠ g) (n4 : pc ≠ g) (n5 : pd ≠ g) :
    Calls Tryz.prog 80 #[.int .u32 n, .int .i64 16, .int .i64 12, .pointer (some ⟨pv, 0, none⟩), .pointer (some ⟨pa, 0, none⟩), .pointer (some ⟨pb, 0, none⟩), .pointer (some ⟨pd, 0, none⟩), .pointer (some ⟨pc, 0, none⟩)] w
      fun e w' => e = .returned (.tuple #[]) ∧ w' = halfW w g 2 7 8 13 xa xb xc xd n 65536 65536 1048576 4096 := by
  have R := H.set_a n1 n2 n3 n4 n5 (hA xa xb n) (by decide) (by decide) (by decide)
  have R2 := R.set_d n1 n2 n3 n4 n5 (hD xa xb xd n 65536 65536) (by decide) (by decide) (by decide)
  have R3 := R2.set_c n1 n2 n3 n4 n5 (hC xa xb xc xd n 65536 65536) (by decide) (by decide) (by decide)
  unfold halfW
  obtain ⟨w1, hw1⟩ : ∃ x, x = (w.setCell ⟨g, 2, none⟩ (.int .u32 (hA xa xb n))).drew := ⟨_, rfl⟩
  rw [← hw1] at R R2 R3 ⊢
  obtain ⟨w2, hw2⟩ : ∃ x, x = (w1.setCell ⟨g, 13, none⟩ (.int .u32 (hD xa xb xd n 65536 65536))).drew := ⟨_, rfl⟩
  rw [← hw2] at R2 R3 ⊢
  obtain ⟨w3, hw3⟩ : ∃ x, x = (w2.setCell ⟨g, 8, none⟩ (.int .u32 (hC xa xb xc xd n 65536 65536))).drew := ⟨_, rfl⟩
  rw [← hw3] at R3 ⊢
  have J1 := Lib.hid hw1
  have J2 := Lib.hid hw2
  have J3 := Lib.hid hw3
  clear hw1 hw2 hw3
  have R := Aside0.mk R
  have R2 := Aside0.mk R2
  have R3 := Aside0.mk R3
  clear n1 n2 n3 n4 n5
  obtain ⟨hv, ha, hb, hc, hd, qa, qb, qc, qd, fa, fb, fc, fd⟩ := H
  go_enter Tryz.func80, Tryz.ntmps80
  go_wp2
  go_still_tail 15, (by kernel_rfl)
  go_wp2
  rw [show (w.setCell ⟨g, 2, none⟩ (.int .u32 ((xa + (xb + n) % 4294967296) % 4294967296))).drew = w1 from J1.out.symm]
  clear hv ha hb hc hd qa qb qc qd fa fb fc fd
  obtain ⟨hv, ha, hb, hc, hd, qa, qb, qc, qd, fa, fb, fc, fd⟩ := R.out
  clear R
  refine wp_region_still_tail 18 (by kernel_rfl) (by kernel_rfl) ?_
  simp only [List.take_succ_cons, List.take_zero, List.drop_succ_cons, List.drop_zero]
  repeat still_step
  still_call (rot16 _ _)
  repeat still_step
  refine wpStill_nil ?_
  go_wp2
  rw [show (w1.setCell ⟨g, 13, none⟩ (.int .u32 (rot (Go.bits .xor .u32 xd (hA xa xb n)) 65536 65536))).drew = w2 from J2.out.symm]
  clear hv ha hb hc hd qa qb qc qd fa fb fc fd
  obtain ⟨hv, ha, hb, hc, hd, qa, qb, qc, qd, fa, fb, fc, fd⟩ := R2.out
  clear R2
  go_still_tail 13, (by kernel_rfl)
  go_wp2
  rw [show (w2.setCell ⟨g, 8, none⟩ (.int .u32 ((xc + hD xa xb xd n 65536 65536) % 4294967296))).drew = w3 from J3.out.symm]
  clear hv ha hb hc hd qa qb qc qd fa fb fc fd
  obtain ⟨hv, ha, hb, hc, hd, qa, qb, qc, qd, fa, fb, fc, fd⟩ := R3.out
  clear R3
  refine wp_region_still_tail 18 (by kernel_rfl) (by kernel_rfl) ?_
  simp only [List.take_succ_cons, List.take_zero, List.drop_succ_cons, List.drop_zero]
  repeat still_step
  still_call (rot12 _ _)
  repeat still_step
  refine wpStill_nil ?_
  go_wp2
  go_end0
  exact ⟨rfl, rfl⟩
set_option maxRecDepth 100000 in
set_option maxHeartbeats 1000000 in
theorem half_2_7_1 {g pv pa pb pc pd : Nat} {xa xb xc xd : Int} (n : Int) {w : World} (H : HF w g pv pa pb pc pd 2 7 8 13 xa xb xc xd)
    (n1 : pv ≠ g) (n2 : pa ≠ g) (n3 : pb ≠ g) (n4 : pc ≠ g) (n5 : pd ≠ g) :
    Calls Tryz.prog 80 #[.int .u32 n, .int .i64 8, .int .i64 7, .pointer (some ⟨pv, 0, none⟩), .pointer (some ⟨pa, 0, none⟩), .pointer (some ⟨pb, 0, none⟩), .pointer (some ⟨pd, 0, none⟩), .pointer (some ⟨pc, 0, none⟩)] w
      fun e w' => e = .returned (.tuple #[]) ∧ w' = halfW w g 2 7 8 13 xa xb xc xd n 16777216 256 33554432 128 := by
  have R := H.set_a n1 n2 n3 n4 n5 (hA xa xb n) (by decide) (by decide) (by decide)
  have R2 := R.set_d n1 n2 n3 n4 n5 (hD xa xb xd n 16777216 256) (by decide) (by decide) (by decide)
  have R3 := R2.set_c n1 n2 n3 n4 n5 (hC xa xb xc xd n 16777216 256) (by decide) (by decide) (by decide)
  unfold halfW
  obtain ⟨w1, hw1⟩ : ∃ x, x = (w.setCell ⟨g, 2, none⟩ (.int .u32 (hA xa xb n))).drew := ⟨_, rfl⟩
  rw [← hw1] at R R2 R3 ⊢
  obtain ⟨w2, hw2⟩ : ∃ x, x = (w1.setCell ⟨g, 13, none⟩ (.int .u32 (hD xa xb xd n 16777216 256))).drew := ⟨_, rfl⟩
  rw [← hw2] at R2 R3 ⊢
  obtain ⟨w3, hw3⟩ : ∃ x, x = (w2.setCell ⟨g, 8, none⟩ (.int .u32 (hC xa xb xc xd n 16777216 256))).drew := ⟨_, rfl⟩
  rw [← hw3] at R3 ⊢
  have J1 := Lib.hid hw1
  have J2 := Lib.hid hw2
  have J3 := Lib.hid hw3
  clear hw1 hw2 hw3
  have R := Aside0.mk R
  have R2 := Aside0.mk R2
  have R3 := Aside0.mk R3
  clear n1 n2 n3 n4 n5
  obtain ⟨hv, ha, hb, hc, hd, qa, qb, qc, qd, fa, fb, fc, fd⟩ := H
  go_enter Tryz.func80, Tryz.ntmps80
  go_wp2
  go_still_tail 15, (by kernel_rfl)
  go_wp2
  rw [show (w.setCell ⟨g, 2, none⟩ (.int .u32 ((xa + (xb + n) % 4294967296) % 4294967296))).drew = w1 from J1.out.symm]
  clear hv ha hb hc hd qa qb qc qd fa fb fc fd
  obtain ⟨hv, ha, hb, hc, hd, qa, qb, qc, qd, fa, fb, fc, fd⟩ := R.out
  clear R
  refine wp_region_still_tail 18 (by kernel_rfl) (by kernel_rfl) ?_
  simp only [List.take_succ_cons, List.take_zero, List.drop_succ_cons, List.drop_zero]
  repeat still_step
  still_call (rot8 _ _)
  repeat still_step
  refine wpStill_nil ?_
  go_wp2
  rw [show (w1.setCell ⟨g, 13, none⟩ (.int .u32 (rot (Go.bits .xor .u32 xd (hA xa xb n)) 16777216 256))).drew = w2 from J2.out.symm]
  clear hv ha hb hc hd qa qb qc qd fa fb fc fd
  obtain ⟨hv, ha, hb, hc, hd, qa, qb, qc, qd, fa, fb, fc, fd⟩ := R2.out
  clear R2
  go_still_tail 13, (by kernel_rfl)
  go_wp2
  rw [show (w2.setCell ⟨g, 8, none⟩ (.int .u32 ((xc + hD xa xb xd n 16777216 256) % 4294967296))).drew = w3 from J3.out.symm]
  clear hv ha hb hc hd qa qb qc qd fa fb fc fd
  obtain ⟨hv, ha, hb, hc, hd, qa, qb, qc, qd, fa, fb, fc, fd⟩ := R3.out
  clear R3
  refine wp_region_still_tail 18 (by kernel_rfl) (by kernel_rfl) ?_
  simp only [List.take_succ_cons, List.take_zero, List.drop_succ_cons, List.drop_zero]
  repeat still_step
  still_call (rot7 _ _)
  repeat still_step
  refine wpStill_nil ?_
  go_wp2
  go_end0
  exact ⟨rfl, rfl⟩
set_option maxRecDepth 100000 in
set_option maxHeartbeats 1000000 in
theorem half_3_4_0 {g pv pa pb pc pd : Nat} {xa xb xc xd : Int} (n : Int) {w : World} (H : HF w g pv pa pb pc pd 3 4 9 14 xa xb xc xd)
    (n1 : pv ≠ g) (n2 : pa ≠ g) (n3 : pb ≠ g) (n4 : pc ≠ g) (n5 : pd ≠ g) :
    Calls Tryz.prog 80 #[.int .u32 n, .int .i64 16, .int .i64 12, .pointer (some ⟨pv, 0, none⟩), .pointer (some ⟨pa, 0, none⟩), .pointer (some ⟨pb, 0, none⟩), .pointer (some ⟨pd, 0, none⟩), .pointer (some ⟨pc, 0, none⟩)] w
      fun e w' => e = .returned (.tuple #[]) ∧ w' = halfW w g 3 4 9 14 xa xb xc xd n 65536 65536 1048576 4096 := by
  have R := H.set_a n1 n2 n3 n4 n5 (hA xa xb n) (by decide) (by decide) (by decide)
  have R2 := R.set_d n1 n2 n3 n4 n5 (hD xa xb xd n 65536 65536) (by decide) (by decide) (by decide)
  have R3 := R2.set_c n1 n2 n3 n4 n5 (hC xa xb xc xd n 65536 65536) (by decide) (by decide) (by decide)
  unfold halfW
  obtain ⟨w1, hw1⟩ : ∃ x, x = (w.setCell ⟨g, 3, none⟩ (.int .u32 (hA xa xb n))).drew := ⟨_, rfl⟩
  rw [← hw1] at R R2 R3 ⊢
  obtain ⟨w2, hw2⟩ : ∃ x, x = (w1.setCell ⟨g, 14, none⟩ (.int .u32 (hD xa xb xd n 65536 65536))).drew := ⟨_, rfl⟩
  rw [← hw2] at R2 R3 ⊢
  obtain ⟨w3, hw3⟩ : ∃ x, x = (w2.setCell ⟨g, 9, none⟩ (.int .u32 (hC xa xb xc xd n 65536 65536))).drew := ⟨_, rfl⟩
  rw [← hw3] at R3 ⊢
  have J1 := Lib.hid hw1
  have J2 := Lib.hid hw2
  have J3 := Lib.hid hw3
  clear hw1 hw2 hw3
  have R := Aside0.mk R
  have R2 := Aside0.mk R2
  have R3 := Aside0.mk R3
  clear n1 n2 n3 n4 n5
  obtain ⟨hv, ha, hb, hc, hd, qa, qb, qc, qd, fa, fb, fc, fd⟩ := H
  go_enter Tryz.func80, Tryz.ntmps80
  go_wp2
  go_still_tail 15, (by kernel_rfl)
  go_wp2
  rw [show (w.setCell ⟨g, 3, none⟩ (.int .u32 ((xa + (xb + n) % 4294967296) % 4294967296))).drew = w1 from J1.out.symm]
  clear hv ha hb hc hd qa qb qc qd fa fb fc fd
  obtain ⟨hv, ha, hb, hc, hd, qa, qb, qc, qd, fa, fb, fc, fd⟩ := R.out
  clear R
  refine wp_region_still_tail 18 (by kernel_rfl) (by kernel_rfl) ?_
  simp only [List.take_succ_cons, List.take_zero, List.drop_succ_cons, List.drop_zero]
  repeat still_step
  still_call (rot16 _ _)
  repeat still_step
  refine wpStill_nil ?_
  go_wp2
  rw [show (w1.setCell ⟨g, 14, none⟩ (.int .u32 (rot (Go.bits .xor .u32 xd (hA xa xb n)) 65536 65536))).drew = w2 from J2.out.symm]
  clear hv ha hb hc hd qa qb qc qd fa fb fc fd
  obtain ⟨hv, ha, hb, hc, hd, qa, qb, qc, qd, fa, fb, fc, fd⟩ := R2.out
  clear R2
  go_still_tail 13, (by kernel_rfl)
  go_wp2
  rw [show (w2.setCell ⟨g, 9, none⟩ (.int .u32 ((xc + hD xa xb xd n 65536 65536) % 4294967296))).drew = w3 from J3.out.symm]
  clear hv ha hb hc hd qa qb qc qd fa fb fc fd
  obtain ⟨hv, ha, hb, hc, hd, qa, qb, qc, qd, fa, fb, fc, fd⟩ := R3.out
  clear R3
  refine wp_region_still_tail 18 (by kernel_rfl) (by kernel_rfl) ?_
  simp only [List.take_succ_cons, List.take_zero, List.drop_succ_cons, List.drop_zero]
  repeat still_step
  still_call (rot12 _ _)
  repeat still_step
  refine wpStill_nil ?_
  go_wp2
  go_end0
  exact ⟨rfl, rfl⟩
set_option maxRecDepth 100000 in
set_option maxHeartbeats 1000000 in
theorem half_3_4_1 {g pv pa pb pc pd : Nat} {xa xb xc xd : Int} (n : Int) {w : World} (H : HF w g pv pa pb pc pd 3 4 9 14 xa xb xc xd)
    (n1 : pv ≠ g) (n2 : pa ≠ g) (n3 : pb ≠ g) (n4 : pc ≠ g) (n5 : pd ≠ g) :
    Calls Tryz.prog 80 #[.int .u32 n, .int .i64 8, .int .i64 7, .pointer (some ⟨pv, 0, none⟩), .pointer (some ⟨pa, 0, none⟩), .pointer (some ⟨pb, 0, none⟩), .pointer (some ⟨pd, 0, none⟩), .pointer (some ⟨pc, 0, none⟩)] w
      fun e w' => e = .returned (.tuple #[]) ∧ w' = halfW w g 3 4 9 14 xa xb xc xd n 16777216 256 33554432 128 := by
  have R := H.set_a n1 n2 n3 n4 n5 (hA xa xb n) (by decide) (by decide) (by decide)
  have R2 := R.set_d n1 n2 n3 n4 n5 (hD xa xb xd n 16777216 256) (by decide) (by decide) (by decide)
  have R3 := R2.set_c n1 n2 n3 n4 n5 (hC xa xb xc xd n 16777216 256) (by decide) (by decide) (by decide)
  unfold halfW
  obtain ⟨w1, hw1⟩ : ∃ x, x = (w.setCell ⟨g, 3, none⟩ (.int .u32 (hA xa xb n))).drew := ⟨_, rfl⟩
  rw [← hw1] at R R2 R3 ⊢
  obtain ⟨w2, hw2⟩ : ∃ x, x = (w1.setCell ⟨g, 14, none⟩ (.int .u32 (hD xa xb xd n 16777216 256))).drew := ⟨_, rfl⟩
  rw [← hw2] at R2 R3 ⊢
  obtain ⟨w3, hw3⟩ : ∃ x, x = (w2.setCell ⟨g, 9, none⟩ (.int .u32 (hC xa xb xc xd n 16777216 256))).drew := ⟨_, rfl⟩
  rw [← hw3] at R3 ⊢
  have J1 := Lib.hid hw1
  have J2 := Lib.hid hw2
  have J3 := Lib.hid hw3
  clear hw1 hw2 hw3
  have R := Aside0.mk R
  have R2 := Aside0.mk R2
  have R3 := Aside0.mk R3
  clear n1 n2 n3 n4 n5
  obtain ⟨hv, ha, hb, hc, hd, qa, qb, qc, qd, fa, fb, fc, fd⟩ := H
  go_enter Tryz.func80, Tryz.ntmps80
  go_wp2
  go_still_tail 15, (by kernel_rfl)
  go_wp2
  rw [show (w.setCell ⟨g, 3, none⟩ (.int .u32 ((xa + (xb + n) % 4294967296) % 4294967296))).drew = w1 from J1.out.symm]
  clear hv ha hb hc hd qa qb qc qd fa fb fc fd
  obtain ⟨hv, ha, hb, hc, hd, qa, qb, qc, qd, fa, fb, fc, fd⟩ := R.out
  clear R
  refine wp_region_still_tail 18 (by kernel_rfl) (by kernel_rfl) ?_
  simp only [List.take_succ_cons, List.take_zero, List.drop_succ_cons, List.drop_zero]
  repeat still_step
  still_call (rot8 _ _)
  repeat still_step
  refine wpStill_nil ?_
  go_wp2
  rw [show (w1.setCell ⟨g, 14, none⟩ (.int .u32 (rot (Go.bits .xor .u32 xd (hA xa xb n)) 16777216 256))).drew = w2 from J2.out.symm]
  clear hv ha hb hc hd qa qb qc qd fa fb fc fd
  obtain ⟨hv, ha, hb, hc, hd, qa, qb, qc, qd, fa, fb, fc, fd⟩ := R2.out
  clear R2
  go_still_tail 13, (by kernel_rfl)
  go_wp2
  rw [show (w2.setCell ⟨g, 9, none⟩ (.int .u32 ((xc + hD xa xb xd n 16777216 256) % 4294967296))).drew = w3 from J3.out.symm]
  clear hv ha hb hc hd qa qb qc qd fa fb fc fd
  obtain ⟨hv, ha, hb, hc, hd, qa, qb, qc, qd, fa, fb, fc, fd⟩ := R3.out
  clear R3
  refine wp_region_still_tail 18 (by kernel_rfl) (by kernel_rfl) ?_
  simp only [List.take_succ_cons, List.take_zero, List.drop_succ_cons, List.drop_zero]
  repeat still_step
  still_call (rot7 _ _)
  repeat still_step
  refine wpStill_nil ?_
  go_wp2
  go_end0
  exact ⟨rfl, rfl⟩
end Go.Proofs.YtoljjgabgdifbaaGreatDoor.H

