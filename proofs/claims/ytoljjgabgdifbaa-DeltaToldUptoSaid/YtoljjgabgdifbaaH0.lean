/- Words for the walks of layers 2 and 35: blocks known whole. -/
import Derived.Test.YtoljjgabgdifbaaProg
import Derived.Below
import Derived.Deep.Draws
import Derived.Deep.AppendLies
import Derived.Maps.AppendAt
import Derived.OwnWalk
import Derived.Laws.BytesArg
import Derived.Laws.MakeOwn
import Derived.Laws.OwnMore
import Derived.Deep.OwnRows
import Derived.Tactics
import Derived.Lib.ConvBytes
import Derived.Laws.Slices
import Derived.WalkKit
import Derived.KernelRfl
import Derived.RowKit3
import Derived.Deep.LoopGhost
import Derived.Deep.QuietTactic
import Derived.BigQuiet
import Derived.WideLaws
import Derived.Deep.DeepCutAuto
import Derived.Deep.CutBlock
import Derived.Deep.RegionHeld3
import Derived.Laws.Rows
import Derived.Lib.AppendStr
import Derived.ArgAppend
import Derived.Laws.IdiomCopy
import Derived.OrdersHeld
import Derived.Laws.BitsLemmas
import Derived.RowKit
import Derived.Test.YtoljjgabgdifbaaWWords
import Derived.Test.YtoljjgabgdifbaaWLast
import Derived.Test.YtoljjgabgdifbaaWTab
import Derived.Test.YtoljjgabgdifbaaWFour
import Derived.Test.YtoljjgabgdifbaaWQPut
import Derived.Test.YtoljjgabgdifbaaWApart
import Derived.Test.YtoljjgabgdifbaaWArr
import Derived.Test.YtoljjgabgdifbaaWZeros
import Derived.Test.YtoljjgabgdifbaaWFoot
import Derived.Test.YtoljjgabgdifbaaWKept
import Derived.Test.YtoljjgabgdifbaaWShare
import Derived.Test.YtoljjgabgdifbaaWN
import Derived.Test.YtoljjgabgdifbaaWFootNe
import Derived.Test.YtoljjgabgdifbaaWAt
import Derived.Test.YtoljjgabgdifbaaWEqStruct
import Derived.Test.YtoljjgabgdifbaaWRepsOne
import Derived.Test.YtoljjgabgdifbaaWInv
import Derived.Test.YtoljjgabgdifbaaWInvWords
import Derived.Test.YtoljjgabgdifbaaWGuard
import Derived.Test.YtoljjgabgdifbaaWNEv
import Derived.Test.YtoljjgabgdifbaaWMore
import Derived.StillTail
import Derived.StillTailTactics
import Derived.Deep.DeepFit
import Derived.Outline
import Derived.Lib.Hide
namespace Go.Proofs.Ytoljjgabgdifbaa.H
open Go.RowKit Go.Proofs.YtoljjgabgdifbaaW.PrintWords Go.Proofs.YtoljjgabgdifbaaW.PrintLast
set_option linter.unusedVariables false
set_option linter.unusedSimpArgs false

/-- Block g is just these cells. -/
def Blk (w : World) (g : Nat) (t : TypeId) (cs : Array Value) : Prop := w.heap[g]? = some (.cells cs t (0, 0))

section
variable {w w' : World} {g : Nat} {t : TypeId} {cs : Array Value}
theorem Blk.lt (h : Blk w g t cs) : g < w.heap.size := by
  rcases Nat.lt_or_ge g w.heap.size with hlt | hge
  · exact hlt
  · unfold Blk at h; rw [Array.getElem?_eq_none hge] at h; cases h
theorem Blk.cell (h : Blk w g t cs) (i : Nat) : w.cell? ⟨g, i, none⟩ = cs[i]? := cell_of_row w g i cs t (0, 0) h
theorem Blk.frozen (h : Blk w g t cs) (i : Nat) : w.frozen? ⟨g, i, none⟩ = false := by
  unfold Blk at h
  simp [World.frozen?, h]
theorem Blk.new (w : World) (t : TypeId) (cs : Array Value) : Blk (w.alloc (.cells cs t)) w.heap.size t cs := heap_alloc_new w _
theorem Blk.drew (h : Blk w g t cs) : Blk w.drew g t cs := h
theorem Blk.drewN (h : Blk w g t cs) (n : Nat) : Blk (w.drewN n) g t cs := h
theorem Blk.alloc (h : Blk w g t cs) (o : Obj) : Blk (w.alloc o) g t cs := (Below.heap_alloc w o g h.lt).trans h
theorem Blk.set_ (h : Blk w g t cs) (i : Nat) (u : Value) : Blk (w.setCell ⟨g, i, none⟩ u) g t (cs.setIfInBounds i u) := by
  unfold Blk at h ⊢
  simp [World.setCell, Array.getElem?_modify, h]
theorem Blk.far (h : Blk w g t cs) {p : Addr} (hp : g ≠ p.block) (u : Value) : Blk (w.setCell p u) g t cs := (Below.heap_setCell w p u g hp).trans h
theorem Blk.below {B : Nat} (h : Blk w g t cs) (hb : Below B w w') (hg : g < B) : Blk w' g t cs := (hb.block g hg).trans h
theorem Blk.grown {row : Option Nat} (h : Blk w g t cs) (hb : w.grownBy w' row) (hg : some g ≠ row) : Blk w' g t cs := (hb.block g h.lt hg).trans h
end
theorem bcell {W w1 : World} (hb : Below W.heap.size W w1) : (∀ b o, b < W.heap.size → w1.cell? ⟨b, o, none⟩ = W.cell? ⟨b, o, none⟩) ∧ (∀ b o, b < W.heap.size → w1.frozen? ⟨b, o, none⟩ = W.frozen? ⟨b, o, none⟩) :=
  ⟨fun b o h => hb.cell (p := ⟨b, o, none⟩) h, fun b o h => hb.frozen (p := ⟨b, o, none⟩) h⟩

end Go.Proofs.Ytoljjgabgdifbaa.H
