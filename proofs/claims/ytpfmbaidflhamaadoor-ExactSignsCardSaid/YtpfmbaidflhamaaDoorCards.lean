/-
  DERIVED. GIVEN WITH THE SEED: THE CARDS: each row of YtpfmbaidflhamaaDoorRows.lean that lists a variable, with what it lists TIED to the program's text (the seventh form; the later family's looks); each row that meets fmt, with fmt's text TOLD by the authors' own Lean function (tested against real Go, not proved from fmt's source: count such statements apart). THE CARD IS WHAT COUNTS. Prove the row's statement (the work); the ties are given (YtpfmbaidflhamaaDoorTie.lean); close each card by the builder's one call (the guide's Derived/Test/ToyasCard.lean, 'card_holds'). Laid BY PROGRAM, IN A SANDBOX (cutbox-door.mjs). By AI agents, Wed Nov 11 2026. No macro, syntax, notation, axiom, sorry.
-/
import Derived.Test.YtpfmbaidflhamaaDoorRows
import GoSem.ClaimSeven
namespace Go.Proofs.YtpfmbaidflhamaaDoor
namespace Rows

/-- THE TIED CARD OF 'sparselaw08.ExactSylvester'. -/
def exactSylvesterCard : Claim7 := { stood := { row := exactSylvesterRow, standIns := [], harness := (true, "3fc5e55b26faa2f6f228dd0ddda60ecc60ea7b0e5f9a40af4289629da7aa5c0d"), looks := false }, kinds := [], alts := [], laidByText := true, laidKinds := [.data, .data, .data], laidTests := true, laidLooks := .later }
def ExactSylvesterCardSaid : Prop := Claim7.holds Tryd.pinned (.plain (OpenSpec.ofChange exactSylvesterSpec)) exactSylvesterCard

/-- THE TIED CARD OF 'sparselaw08.ExactCramer'. -/
def exactCramerCard : Claim7 := { stood := { row := exactCramerRow, standIns := [], harness := (true, "3fc5e55b26faa2f6f228dd0ddda60ecc60ea7b0e5f9a40af4289629da7aa5c0d"), looks := false }, kinds := [], alts := [], laidByText := true, laidKinds := [.data, .data, .data], laidTests := true, laidLooks := .later }
def ExactCramerCardSaid : Prop := Claim7.holds Tryd.pinned (.plain (OpenSpec.ofChange exactCramerSpec)) exactCramerCard

/-- THE TIED CARD OF 'sparselaw08.ExactSigns'. -/
def exactSignsCard : Claim7 := { stood := { row := exactSignsRow, standIns := [], harness := (true, "3fc5e55b26faa2f6f228dd0ddda60ecc60ea7b0e5f9a40af4289629da7aa5c0d"), looks := false }, kinds := [], alts := [], laidByText := true, laidKinds := [.data, .data, .data], laidTests := true, laidLooks := .later }
def ExactSignsCardSaid : Prop := Claim7.holds Tryd.pinned (.plain (OpenSpec.ofChange exactSignsSpec)) exactSignsCard

/-- THE SECOND FORM's CARD OF 'sparselaw08.ExactSylvester'. -/
def exactSylvesterUptoCard : Claim7 := { stood := { row := exactSylvesterUptoRow, standIns := [], harness := (true, "3fc5e55b26faa2f6f228dd0ddda60ecc60ea7b0e5f9a40af4289629da7aa5c0d"), looks := false }, kinds := [], alts := [], laidByText := true, laidKinds := [.data, .data, .data], laidTests := true, laidLooks := .later }
def ExactSylvesterUptoCardSaid : Prop := Claim7.holds Tryd.pinned (.plain (OpenSpec.upto exactSylvesterSpec)) exactSylvesterUptoCard

/-- THE SECOND FORM's CARD OF 'sparselaw08.ExactCramer'. -/
def exactCramerUptoCard : Claim7 := { stood := { row := exactCramerUptoRow, standIns := [], harness := (true, "3fc5e55b26faa2f6f228dd0ddda60ecc60ea7b0e5f9a40af4289629da7aa5c0d"), looks := false }, kinds := [], alts := [], laidByText := true, laidKinds := [.data, .data, .data], laidTests := true, laidLooks := .later }
def ExactCramerUptoCardSaid : Prop := Claim7.holds Tryd.pinned (.plain (OpenSpec.upto exactCramerSpec)) exactCramerUptoCard

/-- THE SECOND FORM's CARD OF 'sparselaw08.ExactSigns'. -/
def exactSignsUptoCard : Claim7 := { stood := { row := exactSignsUptoRow, standIns := [], harness := (true, "3fc5e55b26faa2f6f228dd0ddda60ecc60ea7b0e5f9a40af4289629da7aa5c0d"), looks := false }, kinds := [], alts := [], laidByText := true, laidKinds := [.data, .data, .data], laidTests := true, laidLooks := .later }
def ExactSignsUptoCardSaid : Prop := Claim7.holds Tryd.pinned (.plain (OpenSpec.upto exactSignsSpec)) exactSignsUptoCard
end Rows
end Go.Proofs.YtpfmbaidflhamaaDoor
