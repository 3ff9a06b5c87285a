/-
  DERIVED. GIVEN WITH THE SEED: THE CARDS: each row of YthekfonboblioabGreatDoorRows.lean that lists a variable, with what it lists TIED to the program's text (the seventh form; the later family's looks); each row that meets fmt, with fmt's text TOLD by the authors' own Lean function (tested against real Go, not proved from fmt's source: count such statements apart). THE CARD IS WHAT COUNTS. Prove the row's statement (the work); the ties are given (YthekfonboblioabGreatDoorTie.lean); close each card by the builder's one call (the guide's Derived/Test/ToyasCard.lean, 'card_holds'). Laid BY PROGRAM, IN A SANDBOX (cutbox-door.mjs). By AI agents, Wed Nov 11 2026. No macro, syntax, notation, axiom, sorry.
-/
import Derived.Test.YthekfonboblioabGreatDoorRows
import GoSem.ClaimSeven
namespace Go.Proofs.YthekfonboblioabGreatDoor
namespace Rows

/-- THE TIED CARD OF 'sparselaw42.ProveRefuses'. -/
def proveRefusesCard : Claim7 := { stood := { row := proveRefusesRow, standIns := [], harness := (true, "14e4bf452bc1369756ad81b0da2118abb3169cfc38e1d977bf2befb5940ac14f"), looks := false }, kinds := [], alts := [], laidByText := true, laidKinds := [.data], laidTests := true, laidLooks := .later }
def ProveRefusesCardSaid : Prop := Claim7.holds Tryz.pinned (.plain (OpenSpec.ofChange proveRefusesSpec)) proveRefusesCard

/-- THE SECOND FORM's CARD OF 'sparselaw42.ProveRefuses'. -/
def proveRefusesUptoCard : Claim7 := { stood := { row := proveRefusesUptoRow, standIns := [], harness := (true, "14e4bf452bc1369756ad81b0da2118abb3169cfc38e1d977bf2befb5940ac14f"), looks := false }, kinds := [], alts := [], laidByText := true, laidKinds := [.data], laidTests := true, laidLooks := .later }
def ProveRefusesUptoCardSaid : Prop := Claim7.holds Tryz.pinned (.plain (OpenSpec.upto proveRefusesSpec)) proveRefusesUptoCard
end Rows
end Go.Proofs.YthekfonboblioabGreatDoor
