/-
  DERIVED. GIVEN WITH THE SEED: THE CARDS: each row of YtpfmbaidflhamaaGreatDoorRows.lean that lists a variable, with what it lists TIED to the program's text (the seventh form; the later family's looks); each row that meets fmt, with fmt's text TOLD by the authors' own Lean function (tested against real Go, not proved from fmt's source: count such statements apart). THE CARD IS WHAT COUNTS. Prove the row's statement (the work); the ties are given (YtpfmbaidflhamaaGreatDoorTie.lean); close each card by the builder's one call (the guide's Derived/Test/ToyasCard.lean, 'card_holds'). Laid BY PROGRAM, IN A SANDBOX (cutbox-door.mjs). By AI agents, Wed Nov 11 2026. No macro, syntax, notation, axiom, sorry.
-/
import Derived.Test.YtpfmbaidflhamaaGreatDoorRows
import GoSem.ClaimSeven
namespace Go.Proofs.YtpfmbaidflhamaaGreatDoor
namespace Rows

/-- THE TIED CARD OF 'sparselaw08.ExactInertia'. -/
def exactInertiaCard : Claim7 := { stood := { row := exactInertiaRow, standIns := [], harness := (true, "ec06430e0bd8435142a00cee3078b97ae3ec83fb1969abe416fb9015ffcdda4f"), looks := false }, kinds := [], alts := [], laidByText := true, laidKinds := [.data, .data, .data], laidTests := true, laidLooks := .later }
def ExactInertiaCardSaid : Prop := Claim7.holds Tryz.pinned (.plain (OpenSpec.ofChange exactInertiaSpec)) exactInertiaCard

/-- THE TIED CARD OF 'sparselaw08.ExactSolves'. -/
def exactSolvesCard : Claim7 := { stood := { row := exactSolvesRow, standIns := [], harness := (true, "ec06430e0bd8435142a00cee3078b97ae3ec83fb1969abe416fb9015ffcdda4f"), looks := false }, kinds := [], alts := [], laidByText := true, laidKinds := [.data, .data, .data], laidTests := true, laidLooks := .later }
def ExactSolvesCardSaid : Prop := Claim7.holds Tryz.pinned (.plain (OpenSpec.ofChange exactSolvesSpec)) exactSolvesCard

/-- THE TIED CARD OF 'sparselaw08.ExactLeast'. -/
def exactLeastCard : Claim7 := { stood := { row := exactLeastRow, standIns := [], harness := (true, "ec06430e0bd8435142a00cee3078b97ae3ec83fb1969abe416fb9015ffcdda4f"), looks := false }, kinds := [], alts := [], laidByText := true, laidKinds := [.data, .data, .data], laidTests := true, laidLooks := .later }
def ExactLeastCardSaid : Prop := Claim7.holds Tryz.pinned (.plain (OpenSpec.ofChange exactLeastSpec)) exactLeastCard

/-- THE TIED CARD OF 'sparselaw08.ExactValues'. -/
def exactValuesCard : Claim7 := { stood := { row := exactValuesRow, standIns := [], harness := (true, "ec06430e0bd8435142a00cee3078b97ae3ec83fb1969abe416fb9015ffcdda4f"), looks := false }, kinds := [], alts := [], laidByText := true, laidKinds := [.data, .data, .data], laidTests := true, laidLooks := .later }
def ExactValuesCardSaid : Prop := Claim7.holds Tryz.pinned (.plain (OpenSpec.ofChange exactValuesSpec)) exactValuesCard

/-- THE TIED CARD OF 'sparselaw08.ExactKernel'. -/
def exactKernelCard : Claim7 := { stood := { row := exactKernelRow, standIns := [], harness := (true, "ec06430e0bd8435142a00cee3078b97ae3ec83fb1969abe416fb9015ffcdda4f"), looks := false }, kinds := [], alts := [], laidByText := true, laidKinds := [.data, .data, .data], laidTests := true, laidLooks := .later }
def ExactKernelCardSaid : Prop := Claim7.holds Tryz.pinned (.plain (OpenSpec.ofChange exactKernelSpec)) exactKernelCard

/-- THE TIED CARD OF 'sparselaw08.ExactDet'. -/
def exactDetCard : Claim7 := { stood := { row := exactDetRow, standIns := [], harness := (true, "ec06430e0bd8435142a00cee3078b97ae3ec83fb1969abe416fb9015ffcdda4f"), looks := false }, kinds := [], alts := [], laidByText := true, laidKinds := [.data, .data, .data], laidTests := true, laidLooks := .later }
def ExactDetCardSaid : Prop := Claim7.holds Tryz.pinned (.plain (OpenSpec.ofChange exactDetSpec)) exactDetCard

/-- THE SECOND FORM's CARD OF 'sparselaw08.ExactInertia'. -/
def exactInertiaUptoCard : Claim7 := { stood := { row := exactInertiaUptoRow, standIns := [], harness := (true, "ec06430e0bd8435142a00cee3078b97ae3ec83fb1969abe416fb9015ffcdda4f"), looks := false }, kinds := [], alts := [], laidByText := true, laidKinds := [.data, .data, .data], laidTests := true, laidLooks := .later }
def ExactInertiaUptoCardSaid : Prop := Claim7.holds Tryz.pinned (.plain (OpenSpec.upto exactInertiaSpec)) exactInertiaUptoCard

/-- THE SECOND FORM's CARD OF 'sparselaw08.ExactSolves'. -/
def exactSolvesUptoCard : Claim7 := { stood := { row := exactSolvesUptoRow, standIns := [], harness := (true, "ec06430e0bd8435142a00cee3078b97ae3ec83fb1969abe416fb9015ffcdda4f"), looks := false }, kinds := [], alts := [], laidByText := true, laidKinds := [.data, .data, .data], laidTests := true, laidLooks := .later }
def ExactSolvesUptoCardSaid : Prop := Claim7.holds Tryz.pinned (.plain (OpenSpec.upto exactSolvesSpec)) exactSolvesUptoCard

/-- THE SECOND FORM's CARD OF 'sparselaw08.ExactLeast'. -/
def exactLeastUptoCard : Claim7 := { stood := { row := exactLeastUptoRow, standIns := [], harness := (true, "ec06430e0bd8435142a00cee3078b97ae3ec83fb1969abe416fb9015ffcdda4f"), looks := false }, kinds := [], alts := [], laidByText := true, laidKinds := [.data, .data, .data], laidTests := true, laidLooks := .later }
def ExactLeastUptoCardSaid : Prop := Claim7.holds Tryz.pinned (.plain (OpenSpec.upto exactLeastSpec)) exactLeastUptoCard

/-- THE SECOND FORM's CARD OF 'sparselaw08.ExactValues'. -/
def exactValuesUptoCard : Claim7 := { stood := { row := exactValuesUptoRow, standIns := [], harness := (true, "ec06430e0bd8435142a00cee3078b97ae3ec83fb1969abe416fb9015ffcdda4f"), looks := false }, kinds := [], alts := [], laidByText := true, laidKinds := [.data, .data, .data], laidTests := true, laidLooks := .later }
def ExactValuesUptoCardSaid : Prop := Claim7.holds Tryz.pinned (.plain (OpenSpec.upto exactValuesSpec)) exactValuesUptoCard

/-- THE SECOND FORM's CARD OF 'sparselaw08.ExactKernel'. -/
def exactKernelUptoCard : Claim7 := { stood := { row := exactKernelUptoRow, standIns := [], harness := (true, "ec06430e0bd8435142a00cee3078b97ae3ec83fb1969abe416fb9015ffcdda4f"), looks := false }, kinds := [], alts := [], laidByText := true, laidKinds := [.data, .data, .data], laidTests := true, laidLooks := .later }
def ExactKernelUptoCardSaid : Prop := Claim7.holds Tryz.pinned (.plain (OpenSpec.upto exactKernelSpec)) exactKernelUptoCard

/-- THE SECOND FORM's CARD OF 'sparselaw08.ExactDet'. -/
def exactDetUptoCard : Claim7 := { stood := { row := exactDetUptoRow, standIns := [], harness := (true, "ec06430e0bd8435142a00cee3078b97ae3ec83fb1969abe416fb9015ffcdda4f"), looks := false }, kinds := [], alts := [], laidByText := true, laidKinds := [.data, .data, .data], laidTests := true, laidLooks := .later }
def ExactDetUptoCardSaid : Prop := Claim7.holds Tryz.pinned (.plain (OpenSpec.upto exactDetSpec)) exactDetUptoCard
end Rows
end Go.Proofs.YtpfmbaidflhamaaGreatDoor
