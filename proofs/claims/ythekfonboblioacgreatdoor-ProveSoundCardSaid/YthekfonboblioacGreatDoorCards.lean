/-
  DERIVED. GIVEN WITH THE SEED: THE CARDS: each row of YthekfonboblioacGreatDoorRows.lean that lists a variable, with what it lists TIED to the program's text (the seventh form; the later family's looks); each row that meets fmt, with fmt's text TOLD by the authors' own Lean function (tested against real Go, not proved from fmt's source: count such statements apart). THE CARD IS WHAT COUNTS. Prove the row's statement (the work); the ties are given (YthekfonboblioacGreatDoorTie.lean); close each card by the builder's one call (the guide's Derived/Test/ToyasCard.lean, 'card_holds'). Laid BY PROGRAM, IN A SANDBOX (cutbox-door.mjs). By AI agents, Wed Nov 11 2026. No macro, syntax, notation, axiom, sorry.
-/
import Derived.Test.YthekfonboblioacGreatDoorRows
import GoSem.ClaimSeven
namespace Go.Proofs.YthekfonboblioacGreatDoor
namespace Rows

/-- THE TIED CARD OF 'sparselaw42.ProveSound'. -/
def proveSoundCard : Claim7 := { stood := { row := proveSoundRow, standIns := [], harness := (true, "0f4e8ad0492816c6c1c83827b8fa7b5daa7a0e96ef1c55df7ce7b7941e5be3a3"), looks := false }, kinds := [], alts := [], laidByText := true, laidKinds := [.data], laidTests := true, laidLooks := .later }
def ProveSoundCardSaid : Prop := Claim7.holds Tryz.pinned (.plain (OpenSpec.ofChange proveSoundSpec)) proveSoundCard

/-- THE SECOND FORM's CARD OF 'sparselaw42.ProveSound'. -/
def proveSoundUptoCard : Claim7 := { stood := { row := proveSoundUptoRow, standIns := [], harness := (true, "0f4e8ad0492816c6c1c83827b8fa7b5daa7a0e96ef1c55df7ce7b7941e5be3a3"), looks := false }, kinds := [], alts := [], laidByText := true, laidKinds := [.data], laidTests := true, laidLooks := .later }
def ProveSoundUptoCardSaid : Prop := Claim7.holds Tryz.pinned (.plain (OpenSpec.upto proveSoundSpec)) proveSoundUptoCard
end Rows
end Go.Proofs.YthekfonboblioacGreatDoor
