/-
  DERIVED. GIVEN WITH THE SEED: THE CARDS: each row of YthekfonboblioaaGreatDoorRows.lean that lists a variable, with what it lists TIED to the program's text (the seventh form; the later family's looks); each row that meets fmt, with fmt's text TOLD by the authors' own Lean function (tested against real Go, not proved from fmt's source: count such statements apart). THE CARD IS WHAT COUNTS. Prove the row's statement (the work); the ties are given (YthekfonboblioaaGreatDoorTie.lean); close each card by the builder's one call (the guide's Derived/Test/ToyasCard.lean, 'card_holds'). Laid BY PROGRAM, IN A SANDBOX (cutbox-door.mjs). By AI agents, Wed Nov 11 2026. No macro, syntax, notation, axiom, sorry.
-/
import Derived.Test.YthekfonboblioaaGreatDoorRows
import GoSem.ClaimSeven
namespace Go.Proofs.YthekfonboblioaaGreatDoor
namespace Rows

/-- THE TIED CARD OF 'sparselaw42.ProveRanks'. -/
def proveRanksCard : Claim7 := { stood := { row := proveRanksRow, standIns := [], harness := (true, "9e1e8da24be84b43127b50b86e76463e4b08cf99263a837169fbc81f01177f5f"), looks := false }, kinds := [], alts := [], laidByText := true, laidKinds := [.data], laidTests := true, laidLooks := .later }
def ProveRanksCardSaid : Prop := Claim7.holds Tryz.pinned (.plain (OpenSpec.ofChange proveRanksSpec)) proveRanksCard

/-- THE SECOND FORM's CARD OF 'sparselaw42.ProveRanks'. -/
def proveRanksUptoCard : Claim7 := { stood := { row := proveRanksUptoRow, standIns := [], harness := (true, "9e1e8da24be84b43127b50b86e76463e4b08cf99263a837169fbc81f01177f5f"), looks := false }, kinds := [], alts := [], laidByText := true, laidKinds := [.data], laidTests := true, laidLooks := .later }
def ProveRanksUptoCardSaid : Prop := Claim7.holds Tryz.pinned (.plain (OpenSpec.upto proveRanksSpec)) proveRanksUptoCard
end Rows
end Go.Proofs.YthekfonboblioaaGreatDoor
