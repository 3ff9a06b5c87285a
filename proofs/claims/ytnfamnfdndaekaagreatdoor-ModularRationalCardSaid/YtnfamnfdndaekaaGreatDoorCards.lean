/-
  DERIVED. GIVEN WITH THE SEED: THE CARDS: each row of YtnfamnfdndaekaaGreatDoorRows.lean that lists a variable, with what it lists TIED to the program's text (the seventh form; the later family's looks); each row that meets fmt, with fmt's text TOLD by the authors' own Lean function (tested against real Go, not proved from fmt's source: count such statements apart). THE CARD IS WHAT COUNTS. Prove the row's statement (the work); the ties are given (YtnfamnfdndaekaaGreatDoorTie.lean); close each card by the builder's one call (the guide's Derived/Test/ToyasCard.lean, 'card_holds'). Laid BY PROGRAM, IN A SANDBOX (cutbox-door.mjs). By AI agents, Wed Nov 11 2026. No macro, syntax, notation, axiom, sorry.
-/
import Derived.Test.YtnfamnfdndaekaaGreatDoorRows
import GoSem.ClaimSeven
namespace Go.Proofs.YtnfamnfdndaekaaGreatDoor
namespace Rows

/-- THE TIED CARD OF 'sparselaw07.ModularCombined'. -/
def modularCombinedCard : Claim7 := { stood := { row := modularCombinedRow, standIns := [], harness := (true, "131d9fa871850e366e4c65cef2ddedce9a03dfa2b3ed55b5163e62ce924f59a9"), looks := false }, kinds := [], alts := [], laidByText := true, laidKinds := [.data, .data, .data], laidTests := true, laidLooks := .later }
def ModularCombinedCardSaid : Prop := Claim7.holds Tryz.pinned (.plain (OpenSpec.ofChange modularCombinedSpec)) modularCombinedCard

/-- THE TIED CARD OF 'sparselaw07.ModularChinese'. -/
def modularChineseCard : Claim7 := { stood := { row := modularChineseRow, standIns := [], harness := (true, "131d9fa871850e366e4c65cef2ddedce9a03dfa2b3ed55b5163e62ce924f59a9"), looks := false }, kinds := [], alts := [], laidByText := true, laidKinds := [.data, .data, .data], laidTests := true, laidLooks := .later }
def ModularChineseCardSaid : Prop := Claim7.holds Tryz.pinned (.plain (OpenSpec.ofChange modularChineseSpec)) modularChineseCard

/-- THE TIED CARD OF 'sparselaw07.ModularPrimes'. -/
def modularPrimesCard : Claim7 := { stood := { row := modularPrimesRow, standIns := [], harness := (true, "131d9fa871850e366e4c65cef2ddedce9a03dfa2b3ed55b5163e62ce924f59a9"), looks := false }, kinds := [], alts := [], laidByText := true, laidKinds := [.data, .data, .data], laidTests := true, laidLooks := .later }
def ModularPrimesCardSaid : Prop := Claim7.holds Tryz.pinned (.plain (OpenSpec.ofChange modularPrimesSpec)) modularPrimesCard

/-- THE TIED CARD OF 'sparselaw07.ModularNumbers'. -/
def modularNumbersCard : Claim7 := { stood := { row := modularNumbersRow, standIns := [], harness := (true, "131d9fa871850e366e4c65cef2ddedce9a03dfa2b3ed55b5163e62ce924f59a9"), looks := false }, kinds := [], alts := [], laidByText := true, laidKinds := [.data, .data, .data], laidTests := true, laidLooks := .later }
def ModularNumbersCardSaid : Prop := Claim7.holds Tryz.pinned (.plain (OpenSpec.ofChange modularNumbersSpec)) modularNumbersCard

/-- THE TIED CARD OF 'sparselaw07.ModularDet'. -/
def modularDetCard : Claim7 := { stood := { row := modularDetRow, standIns := [], harness := (true, "131d9fa871850e366e4c65cef2ddedce9a03dfa2b3ed55b5163e62ce924f59a9"), looks := false }, kinds := [], alts := [], laidByText := true, laidKinds := [.data, .data, .data], laidTests := true, laidLooks := .later }
def ModularDetCardSaid : Prop := Claim7.holds Tryz.pinned (.plain (OpenSpec.ofChange modularDetSpec)) modularDetCard

/-- THE TIED CARD OF 'sparselaw07.ModularRational'. -/
def modularRationalCard : Claim7 := { stood := { row := modularRationalRow, standIns := [], harness := (true, "131d9fa871850e366e4c65cef2ddedce9a03dfa2b3ed55b5163e62ce924f59a9"), looks := false }, kinds := [], alts := [], laidByText := true, laidKinds := [.data, .data, .data], laidTests := true, laidLooks := .later }
def ModularRationalCardSaid : Prop := Claim7.holds Tryz.pinned (.plain (OpenSpec.ofChange modularRationalSpec)) modularRationalCard

/-- THE TIED CARD OF 'sparselaw07.ModularSolves'. -/
def modularSolvesCard : Claim7 := { stood := { row := modularSolvesRow, standIns := [], harness := (true, "131d9fa871850e366e4c65cef2ddedce9a03dfa2b3ed55b5163e62ce924f59a9"), looks := false }, kinds := [], alts := [], laidByText := true, laidKinds := [.data, .data, .data], laidTests := true, laidLooks := .later }
def ModularSolvesCardSaid : Prop := Claim7.holds Tryz.pinned (.plain (OpenSpec.ofChange modularSolvesSpec)) modularSolvesCard

/-- THE TIED CARD OF 'sparselaw07.ModularLinear'. -/
def modularLinearCard : Claim7 := { stood := { row := modularLinearRow, standIns := [], harness := (true, "131d9fa871850e366e4c65cef2ddedce9a03dfa2b3ed55b5163e62ce924f59a9"), looks := false }, kinds := [], alts := [], laidByText := true, laidKinds := [.data, .data, .data], laidTests := true, laidLooks := .later }
def ModularLinearCardSaid : Prop := Claim7.holds Tryz.pinned (.plain (OpenSpec.ofChange modularLinearSpec)) modularLinearCard

/-- THE SECOND FORM's CARD OF 'sparselaw07.ModularCombined'. -/
def modularCombinedUptoCard : Claim7 := { stood := { row := modularCombinedUptoRow, standIns := [], harness := (true, "131d9fa871850e366e4c65cef2ddedce9a03dfa2b3ed55b5163e62ce924f59a9"), looks := false }, kinds := [], alts := [], laidByText := true, laidKinds := [.data, .data, .data], laidTests := true, laidLooks := .later }
def ModularCombinedUptoCardSaid : Prop := Claim7.holds Tryz.pinned (.plain (OpenSpec.upto modularCombinedSpec)) modularCombinedUptoCard

/-- THE SECOND FORM's CARD OF 'sparselaw07.ModularChinese'. -/
def modularChineseUptoCard : Claim7 := { stood := { row := modularChineseUptoRow, standIns := [], harness := (true, "131d9fa871850e366e4c65cef2ddedce9a03dfa2b3ed55b5163e62ce924f59a9"), looks := false }, kinds := [], alts := [], laidByText := true, laidKinds := [.data, .data, .data], laidTests := true, laidLooks := .later }
def ModularChineseUptoCardSaid : Prop := Claim7.holds Tryz.pinned (.plain (OpenSpec.upto modularChineseSpec)) modularChineseUptoCard

/-- THE SECOND FORM's CARD OF 'sparselaw07.ModularPrimes'. -/
def modularPrimesUptoCard : Claim7 := { stood := { row := modularPrimesUptoRow, standIns := [], harness := (true, "131d9fa871850e366e4c65cef2ddedce9a03dfa2b3ed55b5163e62ce924f59a9"), looks := false }, kinds := [], alts := [], laidByText := true, laidKinds := [.data, .data, .data], laidTests := true, laidLooks := .later }
def ModularPrimesUptoCardSaid : Prop := Claim7.holds Tryz.pinned (.plain (OpenSpec.upto modularPrimesSpec)) modularPrimesUptoCard

/-- THE SECOND FORM's CARD OF 'sparselaw07.ModularNumbers'. -/
def modularNumbersUptoCard : Claim7 := { stood := { row := modularNumbersUptoRow, standIns := [], harness := (true, "131d9fa871850e366e4c65cef2ddedce9a03dfa2b3ed55b5163e62ce924f59a9"), looks := false }, kinds := [], alts := [], laidByText := true, laidKinds := [.data, .data, .data], laidTests := true, laidLooks := .later }
def ModularNumbersUptoCardSaid : Prop := Claim7.holds Tryz.pinned (.plain (OpenSpec.upto modularNumbersSpec)) modularNumbersUptoCard

/-- THE SECOND FORM's CARD OF 'sparselaw07.ModularDet'. -/
def modularDetUptoCard : Claim7 := { stood := { row := modularDetUptoRow, standIns := [], harness := (true, "131d9fa871850e366e4c65cef2ddedce9a03dfa2b3ed55b5163e62ce924f59a9"), looks := false }, kinds := [], alts := [], laidByText := true, laidKinds := [.data, .data, .data], laidTests := true, laidLooks := .later }
def ModularDetUptoCardSaid : Prop := Claim7.holds Tryz.pinned (.plain (OpenSpec.upto modularDetSpec)) modularDetUptoCard

/-- THE SECOND FORM's CARD OF 'sparselaw07.ModularRational'. -/
def modularRationalUptoCard : Claim7 := { stood := { row := modularRationalUptoRow, standIns := [], harness := (true, "131d9fa871850e366e4c65cef2ddedce9a03dfa2b3ed55b5163e62ce924f59a9"), looks := false }, kinds := [], alts := [], laidByText := true, laidKinds := [.data, .data, .data], laidTests := true, laidLooks := .later }
def ModularRationalUptoCardSaid : Prop := Claim7.holds Tryz.pinned (.plain (OpenSpec.upto modularRationalSpec)) modularRationalUptoCard

/-- THE SECOND FORM's CARD OF 'sparselaw07.ModularSolves'. -/
def modularSolvesUptoCard : Claim7 := { stood := { row := modularSolvesUptoRow, standIns := [], harness := (true, "131d9fa871850e366e4c65cef2ddedce9a03dfa2b3ed55b5163e62ce924f59a9"), looks := false }, kinds := [], alts := [], laidByText := true, laidKinds := [.data, .data, .data], laidTests := true, laidLooks := .later }
def ModularSolvesUptoCardSaid : Prop := Claim7.holds Tryz.pinned (.plain (OpenSpec.upto modularSolvesSpec)) modularSolvesUptoCard

/-- THE SECOND FORM's CARD OF 'sparselaw07.ModularLinear'. -/
def modularLinearUptoCard : Claim7 := { stood := { row := modularLinearUptoRow, standIns := [], harness := (true, "131d9fa871850e366e4c65cef2ddedce9a03dfa2b3ed55b5163e62ce924f59a9"), looks := false }, kinds := [], alts := [], laidByText := true, laidKinds := [.data, .data, .data], laidTests := true, laidLooks := .later }
def ModularLinearUptoCardSaid : Prop := Claim7.holds Tryz.pinned (.plain (OpenSpec.upto modularLinearSpec)) modularLinearUptoCard
end Rows
end Go.Proofs.YtnfamnfdndaekaaGreatDoor
