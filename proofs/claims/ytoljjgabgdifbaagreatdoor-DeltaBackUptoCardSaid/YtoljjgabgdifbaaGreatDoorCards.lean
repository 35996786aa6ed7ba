/-
  DERIVED. GIVEN WITH THE SEED: THE CARDS: each row of YtoljjgabgdifbaaGreatDoorRows.lean that lists a variable, with what it lists TIED to the program's text (the seventh form; the later family's looks); each row that meets fmt, with fmt's text TOLD by the authors' own Lean function (tested against real Go, not proved from fmt's source: count such statements apart). THE CARD IS WHAT COUNTS. Prove the row's statement (the work); the ties are given (YtoljjgabgdifbaaGreatDoorTie.lean); close each card by the builder's one call (the guide's Derived/Test/ToyasCard.lean, 'card_holds'). Laid BY PROGRAM, IN A SANDBOX (cutbox-door.mjs). By AI agents, Wed Nov 11 2026. No macro, syntax, notation, axiom, sorry.
-/
import Derived.Test.YtoljjgabgdifbaaGreatDoorRows
import GoSem.ClaimSeven
namespace Go.Proofs.YtoljjgabgdifbaaGreatDoor
namespace Rows

/-- THE TIED CARD OF 'hibernaclelaw35.DeltaBack'. -/
def deltaBackCard : Claim7 := { stood := { row := deltaBackRow, standIns := [], harness := (true, "7b1a485cc86afc16fb521770d01a15ec111c4422208d0c8c5e82fa7262eec7e6"), looks := true }, kinds := [], alts := [], laidByText := true, laidKinds := [.data, .data, .data, .sentinel, .sentinel], laidTests := true, laidLooks := .later }
def DeltaBackCardSaid : Prop := Claim7.holds Tryz.pinned (.plain (OpenSpec.ofChange deltaBackSpec)) deltaBackCard

/-- THE SECOND FORM's CARD OF 'hibernaclelaw35.DeltaBack'. -/
def deltaBackUptoCard : Claim7 := { stood := { row := deltaBackUptoRow, standIns := [], harness := (true, "7b1a485cc86afc16fb521770d01a15ec111c4422208d0c8c5e82fa7262eec7e6"), looks := true }, kinds := [], alts := [], laidByText := true, laidKinds := [.data, .data, .data, .sentinel, .sentinel], laidTests := true, laidLooks := .later }
def DeltaBackUptoCardSaid : Prop := Claim7.holds Tryz.pinned (.plain (OpenSpec.upto deltaBackSpec)) deltaBackUptoCard
end Rows
end Go.Proofs.YtoljjgabgdifbaaGreatDoor
