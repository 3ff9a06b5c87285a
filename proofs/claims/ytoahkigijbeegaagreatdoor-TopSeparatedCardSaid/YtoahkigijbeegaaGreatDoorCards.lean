/-
  DERIVED. GIVEN WITH THE SEED: THE CARDS: each row of YtoahkigijbeegaaGreatDoorRows.lean that lists a variable, with what it lists TIED to the program's text (the seventh form; the later family's looks); each row that meets fmt, with fmt's text TOLD by the authors' own Lean function (tested against real Go, not proved from fmt's source: count such statements apart). THE CARD IS WHAT COUNTS. Prove the row's statement (the work); the ties are given (YtoahkigijbeegaaGreatDoorTie.lean); close each card by the builder's one call (the guide's Derived/Test/ToyasCard.lean, 'card_holds'). Laid BY PROGRAM, IN A SANDBOX (cutbox-door.mjs). By AI agents, Wed Nov 11 2026. No macro, syntax, notation, axiom, sorry.
-/
import Derived.Test.YtoahkigijbeegaaGreatDoorRows
import GoSem.ClaimSeven
namespace Go.Proofs.YtoahkigijbeegaaGreatDoor
namespace Rows

/-- THE TIED CARD OF 'sparsetop.TopSeparated'. -/
def topSeparatedCard : Claim7 := { stood := { row := topSeparatedRow, standIns := [], harness := (true, "f46165b7f40daf325d2da039294295ed335ad99d16bf9cc8533e2698ffebbeed"), looks := false }, kinds := [], alts := [], laidByText := true, laidKinds := [.data], laidTests := true, laidLooks := .later }
def TopSeparatedCardSaid : Prop := Claim7.holds Tryz.pinned (.plain (OpenSpec.ofChange topSeparatedSpec)) topSeparatedCard

/-- THE SECOND FORM's CARD OF 'sparsetop.TopSeparated'. -/
def topSeparatedUptoCard : Claim7 := { stood := { row := topSeparatedUptoRow, standIns := [], harness := (true, "f46165b7f40daf325d2da039294295ed335ad99d16bf9cc8533e2698ffebbeed"), looks := false }, kinds := [], alts := [], laidByText := true, laidKinds := [.data], laidTests := true, laidLooks := .later }
def TopSeparatedUptoCardSaid : Prop := Claim7.holds Tryz.pinned (.plain (OpenSpec.upto topSeparatedSpec)) topSeparatedUptoCard
end Rows
end Go.Proofs.YtoahkigijbeegaaGreatDoor
