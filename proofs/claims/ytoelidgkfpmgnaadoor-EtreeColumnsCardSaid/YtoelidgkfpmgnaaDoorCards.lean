/-
  DERIVED. GIVEN WITH THE SEED: THE CARDS: each row of YtoelidgkfpmgnaaDoorRows.lean that lists a variable, with what it lists TIED to the program's text (the seventh form; the later family's looks); each row that meets fmt, with fmt's text TOLD by the authors' own Lean function (tested against real Go, not proved from fmt's source: count such statements apart). THE CARD IS WHAT COUNTS. Prove the row's statement (the work); the ties are given (YtoelidgkfpmgnaaDoorTie.lean); close each card by the builder's one call (the guide's Derived/Test/ToyasCard.lean, 'card_holds'). Laid BY PROGRAM, IN A SANDBOX (cutbox-door.mjs). By AI agents, Wed Nov 11 2026. No macro, syntax, notation, axiom, sorry.
-/
import Derived.Test.YtoelidgkfpmgnaaDoorRows
import GoSem.ClaimSeven
namespace Go.Proofs.YtoelidgkfpmgnaaDoor
namespace Rows

/-- THE TIED CARD OF 'sparselaw19.EtreeColumns'. -/
def etreeColumnsCard : Claim7 := { stood := { row := etreeColumnsRow, standIns := [], harness := (true, "5a1d5fee120a2b689b691bfb7498c0dfceec6c3b04571a0aba3f78fa26019709"), looks := false }, kinds := [], alts := [], laidByText := true, laidKinds := [.data], laidTests := true, laidLooks := .later }
def EtreeColumnsCardSaid : Prop := Claim7.holds Tryd.pinned (.plain (OpenSpec.ofChange etreeColumnsSpec)) etreeColumnsCard

/-- THE SECOND FORM's CARD OF 'sparselaw19.EtreeColumns'. -/
def etreeColumnsUptoCard : Claim7 := { stood := { row := etreeColumnsUptoRow, standIns := [], harness := (true, "5a1d5fee120a2b689b691bfb7498c0dfceec6c3b04571a0aba3f78fa26019709"), looks := false }, kinds := [], alts := [], laidByText := true, laidKinds := [.data], laidTests := true, laidLooks := .later }
def EtreeColumnsUptoCardSaid : Prop := Claim7.holds Tryd.pinned (.plain (OpenSpec.upto etreeColumnsSpec)) etreeColumnsUptoCard
end Rows
end Go.Proofs.YtoelidgkfpmgnaaDoor
