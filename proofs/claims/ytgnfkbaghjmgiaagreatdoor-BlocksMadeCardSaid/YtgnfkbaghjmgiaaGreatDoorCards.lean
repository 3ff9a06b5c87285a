/-
  DERIVED. GIVEN WITH THE SEED: THE CARDS: each row of YtgnfkbaghjmgiaaGreatDoorRows.lean that lists a variable, with what it lists TIED to the program's text (the seventh form; the later family's looks); each row that meets fmt, with fmt's text TOLD by the authors' own Lean function (tested against real Go, not proved from fmt's source: count such statements apart). THE CARD IS WHAT COUNTS. Prove the row's statement (the work); the ties are given (YtgnfkbaghjmgiaaGreatDoorTie.lean); close each card by the builder's one call (the guide's Derived/Test/ToyasCard.lean, 'card_holds'). Laid BY PROGRAM, IN A SANDBOX (cutbox-door.mjs). By AI agents, Wed Nov 11 2026. No macro, syntax, notation, axiom, sorry.
-/
import Derived.Test.YtgnfkbaghjmgiaaGreatDoorRows
import GoSem.ClaimSeven
namespace Go.Proofs.YtgnfkbaghjmgiaaGreatDoor
namespace Rows

/-- THE TIED CARD OF 'sparselaw15.BlocksMade'. -/
def blocksMadeCard : Claim7 := { stood := { row := blocksMadeRow, standIns := [], harness := (true, "6312d80390e76dbc5d4d524c9db5e89f990926eea3485be2aff68e10b4d58c42"), looks := false }, kinds := [], alts := [], laidByText := true, laidKinds := [.data], laidTests := true, laidLooks := .later }
def BlocksMadeCardSaid : Prop := Claim7.holds Tryz.pinned (.plain (OpenSpec.ofChange blocksMadeSpec)) blocksMadeCard

/-- THE TIED CARD OF 'sparselaw15.BlocksCoarse'. -/
def blocksCoarseCard : Claim7 := { stood := { row := blocksCoarseRow, standIns := [], harness := (true, "6312d80390e76dbc5d4d524c9db5e89f990926eea3485be2aff68e10b4d58c42"), looks := false }, kinds := [], alts := [], laidByText := true, laidKinds := [.data], laidTests := true, laidLooks := .later }
def BlocksCoarseCardSaid : Prop := Claim7.holds Tryz.pinned (.plain (OpenSpec.ofChange blocksCoarseSpec)) blocksCoarseCard

/-- THE TIED CARD OF 'sparselaw15.BlocksRank'. -/
def blocksRankCard : Claim7 := { stood := { row := blocksRankRow, standIns := [], harness := (true, "6312d80390e76dbc5d4d524c9db5e89f990926eea3485be2aff68e10b4d58c42"), looks := false }, kinds := [], alts := [], laidByText := true, laidKinds := [.data], laidTests := true, laidLooks := .later }
def BlocksRankCardSaid : Prop := Claim7.holds Tryz.pinned (.plain (OpenSpec.ofChange blocksRankSpec)) blocksRankCard

/-- THE TIED CARD OF 'sparselaw15.BlocksTriangle'. -/
def blocksTriangleCard : Claim7 := { stood := { row := blocksTriangleRow, standIns := [], harness := (true, "6312d80390e76dbc5d4d524c9db5e89f990926eea3485be2aff68e10b4d58c42"), looks := false }, kinds := [], alts := [], laidByText := true, laidKinds := [.data], laidTests := true, laidLooks := .later }
def BlocksTriangleCardSaid : Prop := Claim7.holds Tryz.pinned (.plain (OpenSpec.ofChange blocksTriangleSpec)) blocksTriangleCard

/-- THE TIED CARD OF 'sparselaw15.BlocksIrreducible'. -/
def blocksIrreducibleCard : Claim7 := { stood := { row := blocksIrreducibleRow, standIns := [], harness := (true, "6312d80390e76dbc5d4d524c9db5e89f990926eea3485be2aff68e10b4d58c42"), looks := false }, kinds := [], alts := [], laidByText := true, laidKinds := [.data], laidTests := true, laidLooks := .later }
def BlocksIrreducibleCardSaid : Prop := Claim7.holds Tryz.pinned (.plain (OpenSpec.ofChange blocksIrreducibleSpec)) blocksIrreducibleCard

/-- THE TIED CARD OF 'sparselaw15.BlocksPermuted'. -/
def blocksPermutedCard : Claim7 := { stood := { row := blocksPermutedRow, standIns := [], harness := (true, "6312d80390e76dbc5d4d524c9db5e89f990926eea3485be2aff68e10b4d58c42"), looks := false }, kinds := [], alts := [], laidByText := true, laidKinds := [.data], laidTests := true, laidLooks := .later }
def BlocksPermutedCardSaid : Prop := Claim7.holds Tryz.pinned (.plain (OpenSpec.ofChange blocksPermutedSpec)) blocksPermutedCard

/-- THE SECOND FORM's CARD OF 'sparselaw15.BlocksMade'. -/
def blocksMadeUptoCard : Claim7 := { stood := { row := blocksMadeUptoRow, standIns := [], harness := (true, "6312d80390e76dbc5d4d524c9db5e89f990926eea3485be2aff68e10b4d58c42"), looks := false }, kinds := [], alts := [], laidByText := true, laidKinds := [.data], laidTests := true, laidLooks := .later }
def BlocksMadeUptoCardSaid : Prop := Claim7.holds Tryz.pinned (.plain (OpenSpec.upto blocksMadeSpec)) blocksMadeUptoCard

/-- THE SECOND FORM's CARD OF 'sparselaw15.BlocksCoarse'. -/
def blocksCoarseUptoCard : Claim7 := { stood := { row := blocksCoarseUptoRow, standIns := [], harness := (true, "6312d80390e76dbc5d4d524c9db5e89f990926eea3485be2aff68e10b4d58c42"), looks := false }, kinds := [], alts := [], laidByText := true, laidKinds := [.data], laidTests := true, laidLooks := .later }
def BlocksCoarseUptoCardSaid : Prop := Claim7.holds Tryz.pinned (.plain (OpenSpec.upto blocksCoarseSpec)) blocksCoarseUptoCard

/-- THE SECOND FORM's CARD OF 'sparselaw15.BlocksRank'. -/
def blocksRankUptoCard : Claim7 := { stood := { row := blocksRankUptoRow, standIns := [], harness := (true, "6312d80390e76dbc5d4d524c9db5e89f990926eea3485be2aff68e10b4d58c42"), looks := false }, kinds := [], alts := [], laidByText := true, laidKinds := [.data], laidTests := true, laidLooks := .later }
def BlocksRankUptoCardSaid : Prop := Claim7.holds Tryz.pinned (.plain (OpenSpec.upto blocksRankSpec)) blocksRankUptoCard

/-- THE SECOND FORM's CARD OF 'sparselaw15.BlocksTriangle'. -/
def blocksTriangleUptoCard : Claim7 := { stood := { row := blocksTriangleUptoRow, standIns := [], harness := (true, "6312d80390e76dbc5d4d524c9db5e89f990926eea3485be2aff68e10b4d58c42"), looks := false }, kinds := [], alts := [], laidByText := true, laidKinds := [.data], laidTests := true, laidLooks := .later }
def BlocksTriangleUptoCardSaid : Prop := Claim7.holds Tryz.pinned (.plain (OpenSpec.upto blocksTriangleSpec)) blocksTriangleUptoCard

/-- THE SECOND FORM's CARD OF 'sparselaw15.BlocksIrreducible'. -/
def blocksIrreducibleUptoCard : Claim7 := { stood := { row := blocksIrreducibleUptoRow, standIns := [], harness := (true, "6312d80390e76dbc5d4d524c9db5e89f990926eea3485be2aff68e10b4d58c42"), looks := false }, kinds := [], alts := [], laidByText := true, laidKinds := [.data], laidTests := true, laidLooks := .later }
def BlocksIrreducibleUptoCardSaid : Prop := Claim7.holds Tryz.pinned (.plain (OpenSpec.upto blocksIrreducibleSpec)) blocksIrreducibleUptoCard

/-- THE SECOND FORM's CARD OF 'sparselaw15.BlocksPermuted'. -/
def blocksPermutedUptoCard : Claim7 := { stood := { row := blocksPermutedUptoRow, standIns := [], harness := (true, "6312d80390e76dbc5d4d524c9db5e89f990926eea3485be2aff68e10b4d58c42"), looks := false }, kinds := [], alts := [], laidByText := true, laidKinds := [.data], laidTests := true, laidLooks := .later }
def BlocksPermutedUptoCardSaid : Prop := Claim7.holds Tryz.pinned (.plain (OpenSpec.upto blocksPermutedSpec)) blocksPermutedUptoCard
end Rows
end Go.Proofs.YtgnfkbaghjmgiaaGreatDoor
