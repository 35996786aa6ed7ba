/- Layer 2 of the program: a rotation, the half of a mixing, at each of the eight places where it is done. -/
import Derived.Test.YtoljjgabgdifbaaH0
namespace Go.Proofs.Ytoljjgabgdifbaa.H
open Go.RowKit Go.Proofs.YtoljjgabgdifbaaW.PrintWords Go.Proofs.YtoljjgabgdifbaaW.PrintLast
set_option linter.unusedVariables false
set_option linter.unusedSimpArgs false

/-- A number of 32 bits turned: p is 2 to the power of (32 - n), q is 2 to the power of n. -/
def rot (x p q : Int) : Int := Go.bits .or .u32 (x * p % 4294967296) (x / q)
theorem ret_int {k : IntKind} {a b : Int} (h : a = b) : Ending.returned (.int k a) = .returned (.int k b) := by rw [h]

theorem rot16 (x : Int) (w : World) : Calls Try.prog 95 #[.int .u32 x, .int .i64 (-16)] w fun e w' => e = .returned (.int .u32 (rot x 65536 65536)) ∧ w' = w := by
  have e1 : Go.bits BinOp.and IntKind.u64 (IntKind.u64.wrap (-16)) 31 = 16 := by decide +kernel
  go_enter Try.func95, Try.ntmps95
  go_wp2
  go_ret
  exact ⟨rfl, rfl⟩
theorem rot12 (x : Int) (w : World) : Calls Try.prog 95 #[.int .u32 x, .int .i64 (-12)] w fun e w' => e = .returned (.int .u32 (rot x 1048576 4096)) ∧ w' = w := by
  have e1 : Go.bits BinOp.and IntKind.u64 (IntKind.u64.wrap (-12)) 31 = 20 := by decide +kernel
  go_enter Try.func95, Try.ntmps95
  go_wp2
  go_ret
  exact ⟨rfl, rfl⟩
theorem rot8 (x : Int) (w : World) : Calls Try.prog 95 #[.int .u32 x, .int .i64 (-8)] w fun e w' => e = .returned (.int .u32 (rot x 16777216 256)) ∧ w' = w := by
  have e1 : Go.bits BinOp.and IntKind.u64 (IntKind.u64.wrap (-8)) 31 = 24 := by decide +kernel
  go_enter Try.func95, Try.ntmps95
  go_wp2
  go_ret
  exact ⟨rfl, rfl⟩
theorem rot7 (x : Int) (w : World) : Calls Try.prog 95 #[.int .u32 x, .int .i64 (-7)] w fun e w' => e = .returned (.int .u32 (rot x 33554432 128)) ∧ w' = w := by
  have e1 : Go.bits BinOp.and IntKind.u64 (IntKind.u64.wrap (-7)) 31 = 25 := by decide +kernel
  go_enter Try.func95, Try.ntmps95
  go_wp2
  go_ret
  exact ⟨rfl, rfl⟩

/-- What a half of a mixing asks of memory: the five boxes that it was handed, and the four numbers of block g. -/
structure HF (w : World) (g pv pa pb pc pd a b c d : Nat) (xa xb xc xd : Int) : Prop where
  hv : w.cell? ⟨pv, 0, none⟩ = some (.pointer (some ⟨g, 0, none⟩))
  ha : w.cell? ⟨pa, 0, none⟩ = some (.int .i64 a)
  hb : w.cell? ⟨pb, 0, none⟩ = some (.int .i64 b)
  hc : w.cell? ⟨pc, 0, none⟩ = some (.int .i64 c)
  hd : w.cell? ⟨pd, 0, none⟩ = some (.int .i64 d)
  qa : w.cell? ⟨g, a, none⟩ = some (.int .u32 xa)
  qb : w.cell? ⟨g, b, none⟩ = some (.int .u32 xb)
  qc : w.cell? ⟨g, c, none⟩ = some (.int .u32 xc)
  qd : w.cell? ⟨g, d, none⟩ = some (.int .u32 xd)
  fa : w.frozen? ⟨g, a, none⟩ = false
  fb : w.frozen? ⟨g, b, none⟩ = false
  fc : w.frozen? ⟨g, c, none⟩ = false
  fd : w.frozen? ⟨g, d, none⟩ = false
theorem other {w : World} {p q : Addr} {u v : Value} (h : w.cell? q = some u) (hne : q ≠ p) : (w.setCell p v).drew.cell? q = some u := (World.cell?_setCell_other w p q v (fun e => hne e.symm)).trans h
theorem same {w : World} {p : Addr} {u v : Value} (h : w.cell? p = some u) : (w.setCell p v).drew.cell? p = some v := World.cell?_setCell_same w p v h
theorem HF.set_a {w : World} {g pv pa pb pc pd a b c d : Nat} {xa xb xc xd : Int} (H : HF w g pv pa pb pc pd a b c d xa xb xc xd) (n1 : pv ≠ g) (n2 : pa ≠ g) (n3 : pb ≠ g) (n4 : pc ≠ g) (n5 : pd ≠ g) (y : Int) (mb : b ≠ a) (mc : c ≠ a) (md : d ≠ a) :
    HF ((w.setCell ⟨g, a, none⟩ (.int .u32 y)).drew) g pv pa pb pc pd a b c d y xb xc xd where
  hv := other H.hv (fun e => n1 (congrArg Addr.block e))
  ha := other H.ha (fun e => n2 (congrArg Addr.block e))
  hb := other H.hb (fun e => n3 (congrArg Addr.block e))
  hc := other H.hc (fun e => n4 (congrArg Addr.block e))
  hd := other H.hd (fun e => n5 (congrArg Addr.block e))
  qa := same H.qa
  qb := other H.qb (fun e => mb (congrArg Addr.off e))
  qc := other H.qc (fun e => mc (congrArg Addr.off e))
  qd := other H.qd (fun e => md (congrArg Addr.off e))
  fa := (World.frozen?_setCell w _ _ _).trans H.fa
  fb := (World.frozen?_setCell w _ _ _).trans H.fb
  fc := (World.frozen?_setCell w _ _ _).trans H.fc
  fd := (World.frozen?_setCell w _ _ _).trans H.fd
theorem HF.set_b {w : World} {g pv pa pb pc pd a b c d : Nat} {xa xb xc xd : Int} (H : HF w g pv pa pb pc pd a b c d xa xb xc xd) (n1 : pv ≠ g) (n2 : pa ≠ g) (n3 : pb ≠ g) (n4 : pc ≠ g) (n5 : pd ≠ g) (y : Int) (ma : a ≠ b) (mc : c ≠ b) (md : d ≠ b) :
    HF ((w.setCell ⟨g, b, none⟩ (.int .u32 y)).drew) g pv pa pb pc pd a b c d xa y xc xd where
  hv := other H.hv (fun e => n1 (congrArg Addr.block e))
  ha := other H.ha (fun e => n2 (congrArg Addr.block e))
  hb := other H.hb (fun e => n3 (congrArg Addr.block e))
  hc := other H.hc (fun e => n4 (congrArg Addr.block e))
  hd := other H.hd (fun e => n5 (congrArg Addr.block e))
  qa := other H.qa (fun e => ma (congrArg Addr.off e))
  qb := same H.qb
  qc := other H.qc (fun e => mc (congrArg Addr.off e))
  qd := other H.qd (fun e => md (congrArg Addr.off e))
  fa := (World.frozen?_setCell w _ _ _).trans H.fa
  fb := (World.frozen?_setCell w _ _ _).trans H.fb
  fc := (World.frozen?_setCell w _ _ _).trans H.fc
  fd := (World.frozen?_setCell w _ _ _).trans H.fd
theorem HF.set_c {w : World} {g pv pa pb pc pd a b c d : Nat} {xa xb xc xd : Int} (H : HF w g pv pa pb pc pd a b c d xa xb xc xd) (n1 : pv ≠ g) (n2 : pa ≠ g) (n3 : pb ≠ g) (n4 : pc ≠ g) (n5 : pd ≠ g) (y : Int) (ma : a ≠ c) (mb : b ≠ c) (md : d ≠ c) :
    HF ((w.setCell ⟨g, c, none⟩ (.int .u32 y)).drew) g pv pa pb pc pd a b c d xa xb y xd where
  hv := other H.hv (fun e => n1 (congrArg Addr.block e))
  ha := other H.ha (fun e => n2 (congrArg Addr.block e))
  hb := other H.hb (fun e => n3 (congrArg Addr.block e))
  hc := other H.hc (fun e => n4 (congrArg Addr.block e))
  hd := other H.hd (fun e => n5 (congrArg Addr.block e))
  qa := other H.qa (fun e => ma (congrArg Addr.off e))
  qb := other H.qb (fun e => mb (congrArg Addr.off e))
  qc := same H.qc
  qd := other H.qd (fun e => md (congrArg Addr.off e))
  fa := (World.frozen?_setCell w _ _ _).trans H.fa
  fb := (World.frozen?_setCell w _ _ _).trans H.fb
  fc := (World.frozen?_setCell w _ _ _).trans H.fc
  fd := (World.frozen?_setCell w _ _ _).trans H.fd
theorem HF.set_d {w : World} {g pv pa pb pc pd a b c d : Nat} {xa xb xc xd : Int} (H : HF w g pv pa pb pc pd a b c d xa xb xc xd) (n1 : pv ≠ g) (n2 : pa ≠ g) (n3 : pb ≠ g) (n4 : pc ≠ g) (n5 : pd ≠ g) (y : Int) (ma : a ≠ d) (mb : b ≠ d) (mc : c ≠ d) :
    HF ((w.setCell ⟨g, d, none⟩ (.int .u32 y)).drew) g pv pa pb pc pd a b c d xa xb xc y where
  hv := other H.hv (fun e => n1 (congrArg Addr.block e))
  ha := other H.ha (fun e => n2 (congrArg Addr.block e))
  hb := other H.hb (fun e => n3 (congrArg Addr.block e))
  hc := other H.hc (fun e => n4 (congrArg Addr.block e))
  hd := other H.hd (fun e => n5 (congrArg Addr.block e))
  qa := other H.qa (fun e => ma (congrArg Addr.off e))
  qb := other H.qb (fun e => mb (congrArg Addr.off e))
  qc := other H.qc (fun e => mc (congrArg Addr.off e))
  qd := same H.qd
  fa := (World.frozen?_setCell w _ _ _).trans H.fa
  fb := (World.frozen?_setCell w _ _ _).trans H.fb
  fc := (World.frozen?_setCell w _ _ _).trans H.fc
  fd := (World.frozen?_setCell w _ _ _).trans H.fd
/-- The four numbers behind half of a mixing. -/
def hA (xa xb n : Int) : Int := (xa + (xb + n) % 4294967296) % 4294967296
def hD (xa xb xd n p q : Int) : Int := rot (Go.bits .xor .u32 xd (hA xa xb n)) p q
def hC (xa xb xc xd n p q : Int) : Int := (xc + hD xa xb xd n p q) % 4294967296
def hB (xa xb xc xd n p q p' q' : Int) : Int := rot (Go.bits .xor .u32 xb (hC xa xb xc xd n p q)) p' q'
/-- The world behind half of a mixing. -/
def halfW (w : World) (g a b c d : Nat) (xa xb xc xd n p q p' q' : Int) : World :=
  (((((w.setCell ⟨g, a, none⟩ (.int .u32 (hA xa xb n))).drew.setCell ⟨g, d, none⟩ (.int .u32 (hD xa xb xd n p q))).drew.setCell ⟨g, c, none⟩ (.int .u32 (hC xa xb xc xd n p q))).drew).setCell ⟨g, b, none⟩ (.int .u32 (hB xa xb xc xd n p q p' q'))).drew
end Go.Proofs.Ytoljjgabgdifbaa.H
