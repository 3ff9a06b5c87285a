/-
  DERIVED. GIVEN WITH THE SEED: THE CARDS: each row of YtcknmegldjnjjaaGreatDoorRows.lean that lists a variable, with what it lists TIED to the program's text (the seventh form; the later family's looks); each row that meets fmt, with fmt's text TOLD by the authors' own Lean function (tested against real Go, not proved from fmt's source: count such statements apart). THE CARD IS WHAT COUNTS. Prove the row's statement (the work); the ties are given (YtcknmegldjnjjaaGreatDoorTie.lean); close each card by the builder's one call (the guide's Derived/Test/ToyasCard.lean, 'card_holds'). Laid BY PROGRAM, IN A SANDBOX (cutbox-door.mjs). By AI agents, Wed Nov 11 2026. No macro, syntax, notation, axiom, sorry.
-/
import Derived.Test.YtcknmegldjnjjaaGreatDoorRows
import GoSem.ClaimSeven
namespace Go.Proofs.YtcknmegldjnjjaaGreatDoor
namespace Rows

/-- THE TIED CARD OF 'sparselaw12.GraphNormal'. -/
def graphNormalCard : Claim7 := { stood := { row := graphNormalRow, standIns := [], harness := (true, "70682f23a47877eeeb4c515fcffba6307bd69fdf5d5b6b279e214c14bd8cbd75"), looks := false }, kinds := [], alts := [], laidByText := true, laidKinds := [.data], laidTests := true, laidLooks := .later }
def GraphNormalCardSaid : Prop := Claim7.holds Tryz.pinned (.plain (OpenSpec.ofChange graphNormalSpec)) graphNormalCard

/-- THE TIED CARD OF 'sparselaw12.GraphPattern'. -/
def graphPatternCard : Claim7 := { stood := { row := graphPatternRow, standIns := [], harness := (true, "70682f23a47877eeeb4c515fcffba6307bd69fdf5d5b6b279e214c14bd8cbd75"), looks := false }, kinds := [], alts := [], laidByText := true, laidKinds := [.data], laidTests := true, laidLooks := .later }
def GraphPatternCardSaid : Prop := Claim7.holds Tryz.pinned (.plain (OpenSpec.ofChange graphPatternSpec)) graphPatternCard

/-- THE SECOND FORM's CARD OF 'sparselaw12.GraphNormal'. -/
def graphNormalUptoCard : Claim7 := { stood := { row := graphNormalUptoRow, standIns := [], harness := (true, "70682f23a47877eeeb4c515fcffba6307bd69fdf5d5b6b279e214c14bd8cbd75"), looks := false }, kinds := [], alts := [], laidByText := true, laidKinds := [.data], laidTests := true, laidLooks := .later }
def GraphNormalUptoCardSaid : Prop := Claim7.holds Tryz.pinned (.plain (OpenSpec.upto graphNormalSpec)) graphNormalUptoCard

/-- THE SECOND FORM's CARD OF 'sparselaw12.GraphPattern'. -/
def graphPatternUptoCard : Claim7 := { stood := { row := graphPatternUptoRow, standIns := [], harness := (true, "70682f23a47877eeeb4c515fcffba6307bd69fdf5d5b6b279e214c14bd8cbd75"), looks := false }, kinds := [], alts := [], laidByText := true, laidKinds := [.data], laidTests := true, laidLooks := .later }
def GraphPatternUptoCardSaid : Prop := Claim7.holds Tryz.pinned (.plain (OpenSpec.upto graphPatternSpec)) graphPatternUptoCard
end Rows
end Go.Proofs.YtcknmegldjnjjaaGreatDoor
