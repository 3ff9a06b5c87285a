/-
  DERIVED. GIVEN WITH THE SEED: THE CARDS: each row of YtcoaljcfifecgaeGreatDoorRows.lean that lists a variable, with what it lists TIED to the program's text (the seventh form; the later family's looks); each row that meets fmt, with fmt's text TOLD by the authors' own Lean function (tested against real Go, not proved from fmt's source: count such statements apart). THE CARD IS WHAT COUNTS. Prove the row's statement (the work); the ties are given (YtcoaljcfifecgaeGreatDoorTie.lean); close each card by the builder's one call (the guide's Derived/Test/ToyasCard.lean, 'card_holds'). Laid BY PROGRAM, IN A SANDBOX (cutbox-door.mjs). By AI agents, Wed Nov 11 2026. No macro, syntax, notation, axiom, sorry.
-/
import Derived.Test.YtcoaljcfifecgaeGreatDoorRows
import GoSem.ClaimSeven
namespace Go.Proofs.YtcoaljcfifecgaeGreatDoor
namespace Rows

/-- THE TIED CARD OF 'sparselaw42.ProveAccepts'. -/
def proveAcceptsCard : Claim7 := { stood := { row := proveAcceptsRow, standIns := [], harness := (true, "50bcff5a853ec63aac8e8a284deffe646c47615565c3fc3b1c5b71c3a9f6267c"), looks := false }, kinds := [], alts := [], laidByText := true, laidKinds := [.data], laidTests := true, laidLooks := .later }
def ProveAcceptsCardSaid : Prop := Claim7.holds Tryz.pinned (.plain (OpenSpec.ofChange proveAcceptsSpec)) proveAcceptsCard

/-- THE SECOND FORM's CARD OF 'sparselaw42.ProveAccepts'. -/
def proveAcceptsUptoCard : Claim7 := { stood := { row := proveAcceptsUptoRow, standIns := [], harness := (true, "50bcff5a853ec63aac8e8a284deffe646c47615565c3fc3b1c5b71c3a9f6267c"), looks := false }, kinds := [], alts := [], laidByText := true, laidKinds := [.data], laidTests := true, laidLooks := .later }
def ProveAcceptsUptoCardSaid : Prop := Claim7.holds Tryz.pinned (.plain (OpenSpec.upto proveAcceptsSpec)) proveAcceptsUptoCard
end Rows
end Go.Proofs.YtcoaljcfifecgaeGreatDoor
