/-
  DERIVED. GIVEN WITH THE SEED: THE CARDS: each row of YtcoaljcfifecgabGreatDoorRows.lean that lists a variable, with what it lists TIED to the program's text (the seventh form; the later family's looks); each row that meets fmt, with fmt's text TOLD by the authors' own Lean function (tested against real Go, not proved from fmt's source: count such statements apart). THE CARD IS WHAT COUNTS. Prove the row's statement (the work); the ties are given (YtcoaljcfifecgabGreatDoorTie.lean); close each card by the builder's one call (the guide's Derived/Test/ToyasCard.lean, 'card_holds'). Laid BY PROGRAM, IN A SANDBOX (cutbox-door.mjs). By AI agents, Wed Nov 11 2026. No macro, syntax, notation, axiom, sorry.
-/
import Derived.Test.YtcoaljcfifecgabGreatDoorRows
import GoSem.ClaimSeven
namespace Go.Proofs.YtcoaljcfifecgabGreatDoor
namespace Rows

/-- THE TIED CARD OF 'sparselaw42.ProveSingular'. -/
def proveSingularCard : Claim7 := { stood := { row := proveSingularRow, standIns := [], harness := (true, "3221f9209b7f8d5427e675c4f857bf022472dde0bf144bb23b7d3181559f3a87"), looks := false }, kinds := [], alts := [], laidByText := true, laidKinds := [.data], laidTests := true, laidLooks := .later }
def ProveSingularCardSaid : Prop := Claim7.holds Tryz.pinned (.plain (OpenSpec.ofChange proveSingularSpec)) proveSingularCard

/-- THE SECOND FORM's CARD OF 'sparselaw42.ProveSingular'. -/
def proveSingularUptoCard : Claim7 := { stood := { row := proveSingularUptoRow, standIns := [], harness := (true, "3221f9209b7f8d5427e675c4f857bf022472dde0bf144bb23b7d3181559f3a87"), looks := false }, kinds := [], alts := [], laidByText := true, laidKinds := [.data], laidTests := true, laidLooks := .later }
def ProveSingularUptoCardSaid : Prop := Claim7.holds Tryz.pinned (.plain (OpenSpec.upto proveSingularSpec)) proveSingularUptoCard
end Rows
end Go.Proofs.YtcoaljcfifecgabGreatDoor
