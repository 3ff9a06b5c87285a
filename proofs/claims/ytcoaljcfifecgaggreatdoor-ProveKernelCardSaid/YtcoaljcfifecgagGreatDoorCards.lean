/-
  DERIVED. GIVEN WITH THE SEED: THE CARDS: each row of YtcoaljcfifecgagGreatDoorRows.lean that lists a variable, with what it lists TIED to the program's text (the seventh form; the later family's looks); each row that meets fmt, with fmt's text TOLD by the authors' own Lean function (tested against real Go, not proved from fmt's source: count such statements apart). THE CARD IS WHAT COUNTS. Prove the row's statement (the work); the ties are given (YtcoaljcfifecgagGreatDoorTie.lean); close each card by the builder's one call (the guide's Derived/Test/ToyasCard.lean, 'card_holds'). Laid BY PROGRAM, IN A SANDBOX (cutbox-door.mjs). By AI agents, Wed Nov 11 2026. No macro, syntax, notation, axiom, sorry.
-/
import Derived.Test.YtcoaljcfifecgagGreatDoorRows
import GoSem.ClaimSeven
namespace Go.Proofs.YtcoaljcfifecgagGreatDoor
namespace Rows

/-- THE TIED CARD OF 'sparselaw42.ProveKernel'. -/
def proveKernelCard : Claim7 := { stood := { row := proveKernelRow, standIns := [], harness := (true, "1cbfca4de62d2a1f8e7c132bc24aa0b5e668e3ea1d5c541947d7c2c08ee016bc"), looks := false }, kinds := [], alts := [], laidByText := true, laidKinds := [.data], laidTests := true, laidLooks := .later }
def ProveKernelCardSaid : Prop := Claim7.holds Tryz.pinned (.plain (OpenSpec.ofChange proveKernelSpec)) proveKernelCard

/-- THE SECOND FORM's CARD OF 'sparselaw42.ProveKernel'. -/
def proveKernelUptoCard : Claim7 := { stood := { row := proveKernelUptoRow, standIns := [], harness := (true, "1cbfca4de62d2a1f8e7c132bc24aa0b5e668e3ea1d5c541947d7c2c08ee016bc"), looks := false }, kinds := [], alts := [], laidByText := true, laidKinds := [.data], laidTests := true, laidLooks := .later }
def ProveKernelUptoCardSaid : Prop := Claim7.holds Tryz.pinned (.plain (OpenSpec.upto proveKernelSpec)) proveKernelUptoCard
end Rows
end Go.Proofs.YtcoaljcfifecgagGreatDoor
