/-
  No cell of these rows narrows 'for every input' (looked for: loops, veiled, ifaces, maps, wideKeys, modest, calm, conditions, laid).
  DERIVED. THE GIVEN ROWS OF THIS SEAT. 5 by the template 'for every input the law returns true; each argument reads behind the call as it read before'; 0 by the template 'total and deterministic' (their statements: YtoljjgabgdifbaaTotals.lean).
  GIVEN WITH THE SEED: the statements are not yours to turn. If you find one false, say at which input.
  Laid BY PROGRAM, IN A SANDBOX (cutbox-rows.mjs): the forced cells as the released guide's own fill.sh prints them over the translation 54d5c837ebb9ef34… (all of the seat's roots in one cut). By AI agents, Wed Nov 11 2026. No macro, syntax, notation, axiom, sorry.
-/
import Derived.Test.YtoljjgabgdifbaaChecked
import GoSem.Claim
import GoSem.ClaimJoined
import GoSem.ClaimMapViews
import Derived.JoinedTies
import Derived.KernelRfl
namespace Go.Proofs.Ytoljjgabgdifbaa
/- THE CELL 'sum', in the pinned program and in every row, IS THE sha256 OF THE DUMP (.gsa) THAT YtoljjgabgdifbaaProg.lean LOADS. Nothing in Lean hashes anything: it is a label: what it is worth is what the hold of that sum in a sandbox is worth. -/
noncomputable def Try.pinned : Pinned := { name := "ytoljjgabgdifbaa", sum := "54d5c837ebb9ef34343947c917808a95bd91cfb690797c3807fe61f665b3d96a", checked := Try.checked }
namespace Rows
def none {H : Type} : Left H := { results := [], args := [] }

/-- 'hibernaclelaw35.DeltaIs': WHATEVER THE INPUT: true; the input reads as it did. -/
def deltaIsSpec : ChangeSpec := { name := "deltaIs", fn := fun _ => fun
  | [d1, d2] => { results := [.lit (.bool true)], args := [d1, d2] }
  | _ => none }
def deltaIsRow : OpenClaim := { program := "ytoljjgabgdifbaa", sum := "54d5c837ebb9ef34343947c917808a95bd91cfb690797c3807fe61f665b3d96a", func := "hibernacle/hibernaclelaw35.DeltaIs", spec := "deltaIs", inPlace := ["internal/abi.NoEscape", "internal/bytealg.MakeNoZero", "internal/bytealg.IndexByteString"], unfollowed := true, recurses := true, apart := false }
def DeltaIsSaid : Prop := deltaIsRow.holds Try.pinned (OpenSpec.ofChange deltaIsSpec)

/-- ITS FALSE NEIGHBOUR: 'it returns false'. Refute it at one input. -/
def deltaIsWrong : ChangeSpec := { name := "deltaIs", fn := fun _ => fun
  | [d1, d2] => { results := [.lit (.bool false)], args := [d1, d2] }
  | _ => none }
def DeltaIsWrongFalsely : Prop := deltaIsRow.holds Try.pinned (OpenSpec.ofChange deltaIsWrong)

/-- 'hibernaclelaw35.DeltaFew': WHATEVER THE INPUT: true; the input reads as it did. -/
def deltaFewSpec : ChangeSpec := { name := "deltaFew", fn := fun _ => fun
  | [d1, d2] => { results := [.lit (.bool true)], args := [d1, d2] }
  | _ => none }
def deltaFewRow : OpenClaim := { program := "ytoljjgabgdifbaa", sum := "54d5c837ebb9ef34343947c917808a95bd91cfb690797c3807fe61f665b3d96a", func := "hibernacle/hibernaclelaw35.DeltaFew", spec := "deltaFew", inPlace := ["internal/abi.NoEscape", "internal/bytealg.MakeNoZero", "internal/bytealg.IndexByteString"], unfollowed := true, recurses := true, apart := false }
def DeltaFewSaid : Prop := deltaFewRow.holds Try.pinned (OpenSpec.ofChange deltaFewSpec)

/-- ITS FALSE NEIGHBOUR: 'it returns false'. Refute it at one input. -/
def deltaFewWrong : ChangeSpec := { name := "deltaFew", fn := fun _ => fun
  | [d1, d2] => { results := [.lit (.bool false)], args := [d1, d2] }
  | _ => none }
def DeltaFewWrongFalsely : Prop := deltaFewRow.holds Try.pinned (OpenSpec.ofChange deltaFewWrong)

/-- 'hibernaclelaw35.DeltaTold': WHATEVER THE INPUT: true; the input reads as it did. -/
def deltaToldSpec : ChangeSpec := { name := "deltaTold", fn := fun _ => fun
  | [d1, d2, d3] => { results := [.lit (.bool true)], args := [d1, d2, d3] }
  | _ => none }
def deltaToldRow : OpenClaim := { program := "ytoljjgabgdifbaa", sum := "54d5c837ebb9ef34343947c917808a95bd91cfb690797c3807fe61f665b3d96a", func := "hibernacle/hibernaclelaw35.DeltaTold", spec := "deltaTold", inPlace := ["internal/abi.NoEscape", "internal/bytealg.MakeNoZero", "internal/bytealg.IndexByteString"], unfollowed := true, recurses := true, apart := false }
def DeltaToldSaid : Prop := deltaToldRow.holds Try.pinned (OpenSpec.ofChange deltaToldSpec)

/-- ITS FALSE NEIGHBOUR: 'it returns false'. Refute it at one input. -/
def deltaToldWrong : ChangeSpec := { name := "deltaTold", fn := fun _ => fun
  | [d1, d2, d3] => { results := [.lit (.bool false)], args := [d1, d2, d3] }
  | _ => none }
def DeltaToldWrongFalsely : Prop := deltaToldRow.holds Try.pinned (OpenSpec.ofChange deltaToldWrong)

/-- 'hibernaclelaw35.DeltaApplies': WHATEVER THE INPUT: true; the input reads as it did. -/
def deltaAppliesSpec : ChangeSpec := { name := "deltaApplies", fn := fun _ => fun
  | [d1, d2, d3] => { results := [.lit (.bool true)], args := [d1, d2, d3] }
  | _ => none }
def deltaAppliesRow : OpenClaim := { program := "ytoljjgabgdifbaa", sum := "54d5c837ebb9ef34343947c917808a95bd91cfb690797c3807fe61f665b3d96a", func := "hibernacle/hibernaclelaw35.DeltaApplies", spec := "deltaApplies", inPlace := ["internal/abi.NoEscape", "internal/bytealg.MakeNoZero", "internal/bytealg.IndexByteString"], unfollowed := true, recurses := true, apart := false }
def DeltaAppliesSaid : Prop := deltaAppliesRow.holds Try.pinned (OpenSpec.ofChange deltaAppliesSpec)

/-- ITS FALSE NEIGHBOUR: 'it returns false'. Refute it at one input. -/
def deltaAppliesWrong : ChangeSpec := { name := "deltaApplies", fn := fun _ => fun
  | [d1, d2, d3] => { results := [.lit (.bool false)], args := [d1, d2, d3] }
  | _ => none }
def DeltaAppliesWrongFalsely : Prop := deltaAppliesRow.holds Try.pinned (OpenSpec.ofChange deltaAppliesWrong)

/-- 'hibernaclelaw35.DeltaJoins': WHATEVER THE INPUT: true; the input reads as it did. -/
def deltaJoinsSpec : ChangeSpec := { name := "deltaJoins", fn := fun _ => fun
  | [d1, d2, d3] => { results := [.lit (.bool true)], args := [d1, d2, d3] }
  | _ => none }
def deltaJoinsRow : OpenClaim := { program := "ytoljjgabgdifbaa", sum := "54d5c837ebb9ef34343947c917808a95bd91cfb690797c3807fe61f665b3d96a", func := "hibernacle/hibernaclelaw35.DeltaJoins", spec := "deltaJoins", inPlace := ["internal/abi.NoEscape", "internal/bytealg.MakeNoZero", "internal/bytealg.IndexByteString"], unfollowed := true, recurses := true, apart := false }
def DeltaJoinsSaid : Prop := deltaJoinsRow.holds Try.pinned (OpenSpec.ofChange deltaJoinsSpec)

/-- ITS FALSE NEIGHBOUR: 'it returns false'. Refute it at one input. -/
def deltaJoinsWrong : ChangeSpec := { name := "deltaJoins", fn := fun _ => fun
  | [d1, d2, d3] => { results := [.lit (.bool false)], args := [d1, d2, d3] }
  | _ => none }
def DeltaJoinsWrongFalsely : Prop := deltaJoinsRow.holds Try.pinned (OpenSpec.ofChange deltaJoinsWrong)

/- THE SECOND FORM. 'bulk': how many values and letters a reading holds, each counted each time it is reached (what is shared counts as often as it is met; a slice's spare places count too). A statement '..UptoSaid' is the law's where the arguments, and the package variables that the reading takes, are together of bulk at most 1048576: NARROWER than '..Said'. Prove '..Said' where nothing that the law and all that it calls make is longer than what came in: it says more and counts as full. Else prove '..UptoSaid'. A law counts once. -/
mutual
def uptoBulk {H : Type} : DataW H → Nat
  | .lit (.string bytes) => bytes.length + 1
  | .lit _ => 1
  | .nil => 1
  | .ptr d => uptoBulk d + 1
  | .slice elems spare => uptoBulkAll elems + uptoBulkAll spare + 1
  | .agg parts => uptoBulkAll parts + 1
  | .iface _ d => uptoBulk d + 1
  | .map entries => uptoBulkEntries entries + 1
  | .held _ => 1
def uptoBulkAll {H : Type} : List (DataW H) → Nat
  | [] => 0
  | d :: r => uptoBulk d + uptoBulkAll r
def uptoBulkEntries {H : Type} : List (Lit × DataW H) → Nat
  | [] => 0
  | x :: r => uptoBulkEntry x + uptoBulkEntries r
def uptoBulkEntry {H : Type} : Lit × DataW H → Nat
  | (.string bytes, d) => bytes.length + uptoBulk d + 1
  | (_, d) => uptoBulk d + 1
 end
def uptoSmall : (H : Type) → List (DataW H) → Bool := fun _ ds => decide (uptoBulkAll ds ≤ 1048576)
def OpenSpec.upto (s : _root_.Go.ChangeSpec) : _root_.Go.OpenSpec := { _root_.Go.OpenSpec.ofChange s with cond := some uptoSmall }

/-- 'hibernaclelaw35.DeltaIs', WHERE WHAT IT READS IS OF BULK AT MOST 1048576: true; the input reads as it did. -/
def deltaIsUptoRow : OpenClaim := { program := "ytoljjgabgdifbaa", sum := "54d5c837ebb9ef34343947c917808a95bd91cfb690797c3807fe61f665b3d96a", func := "hibernacle/hibernaclelaw35.DeltaIs", spec := "deltaIs", inPlace := ["internal/abi.NoEscape", "internal/bytealg.MakeNoZero", "internal/bytealg.IndexByteString"], unfollowed := true, recurses := true, apart := false, narrowed := true }
def DeltaIsUptoSaid : Prop := deltaIsUptoRow.holds Try.pinned (OpenSpec.upto deltaIsSpec)

/-- 'hibernaclelaw35.DeltaFew', WHERE WHAT IT READS IS OF BULK AT MOST 1048576: true; the input reads as it did. -/
def deltaFewUptoRow : OpenClaim := { program := "ytoljjgabgdifbaa", sum := "54d5c837ebb9ef34343947c917808a95bd91cfb690797c3807fe61f665b3d96a", func := "hibernacle/hibernaclelaw35.DeltaFew", spec := "deltaFew", inPlace := ["internal/abi.NoEscape", "internal/bytealg.MakeNoZero", "internal/bytealg.IndexByteString"], unfollowed := true, recurses := true, apart := false, narrowed := true }
def DeltaFewUptoSaid : Prop := deltaFewUptoRow.holds Try.pinned (OpenSpec.upto deltaFewSpec)

/-- 'hibernaclelaw35.DeltaTold', WHERE WHAT IT READS IS OF BULK AT MOST 1048576: true; the input reads as it did. -/
def deltaToldUptoRow : OpenClaim := { program := "ytoljjgabgdifbaa", sum := "54d5c837ebb9ef34343947c917808a95bd91cfb690797c3807fe61f665b3d96a", func := "hibernacle/hibernaclelaw35.DeltaTold", spec := "deltaTold", inPlace := ["internal/abi.NoEscape", "internal/bytealg.MakeNoZero", "internal/bytealg.IndexByteString"], unfollowed := true, recurses := true, apart := false, narrowed := true }
def DeltaToldUptoSaid : Prop := deltaToldUptoRow.holds Try.pinned (OpenSpec.upto deltaToldSpec)

/-- 'hibernaclelaw35.DeltaApplies', WHERE WHAT IT READS IS OF BULK AT MOST 1048576: true; the input reads as it did. -/
def deltaAppliesUptoRow : OpenClaim := { program := "ytoljjgabgdifbaa", sum := "54d5c837ebb9ef34343947c917808a95bd91cfb690797c3807fe61f665b3d96a", func := "hibernacle/hibernaclelaw35.DeltaApplies", spec := "deltaApplies", inPlace := ["internal/abi.NoEscape", "internal/bytealg.MakeNoZero", "internal/bytealg.IndexByteString"], unfollowed := true, recurses := true, apart := false, narrowed := true }
def DeltaAppliesUptoSaid : Prop := deltaAppliesUptoRow.holds Try.pinned (OpenSpec.upto deltaAppliesSpec)

/-- 'hibernaclelaw35.DeltaJoins', WHERE WHAT IT READS IS OF BULK AT MOST 1048576: true; the input reads as it did. -/
def deltaJoinsUptoRow : OpenClaim := { program := "ytoljjgabgdifbaa", sum := "54d5c837ebb9ef34343947c917808a95bd91cfb690797c3807fe61f665b3d96a", func := "hibernacle/hibernaclelaw35.DeltaJoins", spec := "deltaJoins", inPlace := ["internal/abi.NoEscape", "internal/bytealg.MakeNoZero", "internal/bytealg.IndexByteString"], unfollowed := true, recurses := true, apart := false, narrowed := true }
def DeltaJoinsUptoSaid : Prop := deltaJoinsUptoRow.holds Try.pinned (OpenSpec.upto deltaJoinsSpec)

end Rows
end Go.Proofs.Ytoljjgabgdifbaa
