/-
  NARROWER THAN 'FOR EVERY INPUT', by the rows' own cells (each row's printed sentence says how): BlocksMade: laid · BlocksCoarse: laid · BlocksRank: laid · BlocksTriangle: laid · BlocksIrreducible: laid · BlocksPermuted: laid.
  DERIVED. THE GIVEN ROWS OF THIS SEAT. 6 by the template 'for every input the law returns true; each argument reads behind the call as it read before'; 0 by the template 'total and deterministic' (their statements: YtgnfkbaghjmgiaaGreatDoorTotals.lean).
  GIVEN WITH THE SEED: the statements are not yours to turn. If you find one false, say at which input.
  Laid BY PROGRAM, IN A SANDBOX (cutbox-rows.mjs): the forced cells as the released guide's own fill.sh prints them over the translation fe7970c01c946f1d… (all of the seat's roots in one cut). By AI agents, Wed Nov 11 2026. No macro, syntax, notation, axiom, sorry.
-/
import Derived.Test.YtgnfkbaghjmgiaaGreatDoorChecked
import GoSem.Claim
import GoSem.ClaimJoined
import GoSem.ClaimMapViews
import Derived.JoinedTies
import Derived.KernelRfl
namespace Go.Proofs.YtgnfkbaghjmgiaaGreatDoor
/- THE CELL 'sum', in the pinned program and in every row, IS THE sha256 OF THE DUMP (.gsa) THAT YtgnfkbaghjmgiaaGreatDoorProg.lean LOADS. Nothing in Lean hashes anything: it is a label: what it is worth is what the hold of that sum in a sandbox is worth. -/
noncomputable def Tryz.pinned : Pinned := { name := "ytgnfkbaghjmgiaagreatdoor", sum := "fe7970c01c946f1df96aa6c2779e2a7c648a77fcd39a3f7fb90092805eb276f2", checked := Tryz.checked }
namespace Rows
def none {H : Type} : Left H := { results := [], args := [] }

/- WHAT THE LISTED PACKAGE-LEVEL VARIABLES READ AS WHEN THE CALL BEGINS. Each datum BY PROGRAM (the guide's laid-datum.mjs) off the statement by which the dump's own 'gosem.cut.vars' lays the variable. In a bare row this is a premise. The card (YtgnfkbaghjmgiaaGreatDoorCards.lean) ties it to the program's text. -/
def laid_math_bits_deBruijn32tab {H : Type} : DataW H := .agg [.lit (.int .u8 0), .lit (.int .u8 1), .lit (.int .u8 28), .lit (.int .u8 2), .lit (.int .u8 29), .lit (.int .u8 14), .lit (.int .u8 24), .lit (.int .u8 3), .lit (.int .u8 30), .lit (.int .u8 22), .lit (.int .u8 20), .lit (.int .u8 15), .lit (.int .u8 25), .lit (.int .u8 17), .lit (.int .u8 4), .lit (.int .u8 8), .lit (.int .u8 31), .lit (.int .u8 27), .lit (.int .u8 13), .lit (.int .u8 23), .lit (.int .u8 21), .lit (.int .u8 19), .lit (.int .u8 16), .lit (.int .u8 7), .lit (.int .u8 26), .lit (.int .u8 12), .lit (.int .u8 18), .lit (.int .u8 6), .lit (.int .u8 11), .lit (.int .u8 5), .lit (.int .u8 10), .lit (.int .u8 9)]

/-- 'sparselaw15.BlocksMade': WHATEVER THE INPUT: true; the input reads as it did. -/
def blocksMadeSpec : ChangeSpec := { name := "blocksMade", fn := fun _ => fun
  | [d1, d2, d3] => { results := [.lit (.bool true)], args := [d1, d2, d3] }
  | _ => none }
def blocksMadeRow : OpenClaim := { program := "ytgnfkbaghjmgiaagreatdoor", sum := "fe7970c01c946f1df96aa6c2779e2a7c648a77fcd39a3f7fb90092805eb276f2", func := "sparse/sparselaw15.BlocksMade", spec := "blocksMade", unfollowed := true, recurses := true, named := ["math/bits.deBruijn32tab"], apart := false, laid := [("math/bits.deBruijn32tab", laid_math_bits_deBruijn32tab)] }
def BlocksMadeSaid : Prop := blocksMadeRow.holds Tryz.pinned (OpenSpec.ofChange blocksMadeSpec)

/-- ITS FALSE NEIGHBOUR: 'it returns false'. Refute it at one input. -/
def blocksMadeWrong : ChangeSpec := { name := "blocksMade", fn := fun _ => fun
  | [d1, d2, d3] => { results := [.lit (.bool false)], args := [d1, d2, d3] }
  | _ => none }
def BlocksMadeWrongFalsely : Prop := blocksMadeRow.holds Tryz.pinned (OpenSpec.ofChange blocksMadeWrong)

/-- 'sparselaw15.BlocksCoarse': WHATEVER THE INPUT: true; the input reads as it did. -/
def blocksCoarseSpec : ChangeSpec := { name := "blocksCoarse", fn := fun _ => fun
  | [d1, d2, d3] => { results := [.lit (.bool true)], args := [d1, d2, d3] }
  | _ => none }
def blocksCoarseRow : OpenClaim := { program := "ytgnfkbaghjmgiaagreatdoor", sum := "fe7970c01c946f1df96aa6c2779e2a7c648a77fcd39a3f7fb90092805eb276f2", func := "sparse/sparselaw15.BlocksCoarse", spec := "blocksCoarse", unfollowed := true, recurses := true, named := ["math/bits.deBruijn32tab"], apart := false, laid := [("math/bits.deBruijn32tab", laid_math_bits_deBruijn32tab)] }
def BlocksCoarseSaid : Prop := blocksCoarseRow.holds Tryz.pinned (OpenSpec.ofChange blocksCoarseSpec)

/-- ITS FALSE NEIGHBOUR: 'it returns false'. Refute it at one input. -/
def blocksCoarseWrong : ChangeSpec := { name := "blocksCoarse", fn := fun _ => fun
  | [d1, d2, d3] => { results := [.lit (.bool false)], args := [d1, d2, d3] }
  | _ => none }
def BlocksCoarseWrongFalsely : Prop := blocksCoarseRow.holds Tryz.pinned (OpenSpec.ofChange blocksCoarseWrong)

/-- 'sparselaw15.BlocksRank': WHATEVER THE INPUT: true; the input reads as it did. -/
def blocksRankSpec : ChangeSpec := { name := "blocksRank", fn := fun _ => fun
  | [d1, d2, d3] => { results := [.lit (.bool true)], args := [d1, d2, d3] }
  | _ => none }
def blocksRankRow : OpenClaim := { program := "ytgnfkbaghjmgiaagreatdoor", sum := "fe7970c01c946f1df96aa6c2779e2a7c648a77fcd39a3f7fb90092805eb276f2", func := "sparse/sparselaw15.BlocksRank", spec := "blocksRank", unfollowed := true, recurses := true, named := ["math/bits.deBruijn32tab"], apart := false, laid := [("math/bits.deBruijn32tab", laid_math_bits_deBruijn32tab)] }
def BlocksRankSaid : Prop := blocksRankRow.holds Tryz.pinned (OpenSpec.ofChange blocksRankSpec)

/-- ITS FALSE NEIGHBOUR: 'it returns false'. Refute it at one input. -/
def blocksRankWrong : ChangeSpec := { name := "blocksRank", fn := fun _ => fun
  | [d1, d2, d3] => { results := [.lit (.bool false)], args := [d1, d2, d3] }
  | _ => none }
def BlocksRankWrongFalsely : Prop := blocksRankRow.holds Tryz.pinned (OpenSpec.ofChange blocksRankWrong)

/-- 'sparselaw15.BlocksTriangle': WHATEVER THE INPUT: true; the input reads as it did. -/
def blocksTriangleSpec : ChangeSpec := { name := "blocksTriangle", fn := fun _ => fun
  | [d1, d2] => { results := [.lit (.bool true)], args := [d1, d2] }
  | _ => none }
def blocksTriangleRow : OpenClaim := { program := "ytgnfkbaghjmgiaagreatdoor", sum := "fe7970c01c946f1df96aa6c2779e2a7c648a77fcd39a3f7fb90092805eb276f2", func := "sparse/sparselaw15.BlocksTriangle", spec := "blocksTriangle", unfollowed := true, recurses := true, named := ["math/bits.deBruijn32tab"], apart := false, laid := [("math/bits.deBruijn32tab", laid_math_bits_deBruijn32tab)] }
def BlocksTriangleSaid : Prop := blocksTriangleRow.holds Tryz.pinned (OpenSpec.ofChange blocksTriangleSpec)

/-- ITS FALSE NEIGHBOUR: 'it returns false'. Refute it at one input. -/
def blocksTriangleWrong : ChangeSpec := { name := "blocksTriangle", fn := fun _ => fun
  | [d1, d2] => { results := [.lit (.bool false)], args := [d1, d2] }
  | _ => none }
def BlocksTriangleWrongFalsely : Prop := blocksTriangleRow.holds Tryz.pinned (OpenSpec.ofChange blocksTriangleWrong)

/-- 'sparselaw15.BlocksIrreducible': WHATEVER THE INPUT: true; the input reads as it did. -/
def blocksIrreducibleSpec : ChangeSpec := { name := "blocksIrreducible", fn := fun _ => fun
  | [d1, d2, d3] => { results := [.lit (.bool true)], args := [d1, d2, d3] }
  | _ => none }
def blocksIrreducibleRow : OpenClaim := { program := "ytgnfkbaghjmgiaagreatdoor", sum := "fe7970c01c946f1df96aa6c2779e2a7c648a77fcd39a3f7fb90092805eb276f2", func := "sparse/sparselaw15.BlocksIrreducible", spec := "blocksIrreducible", unfollowed := true, recurses := true, named := ["math/bits.deBruijn32tab"], apart := false, laid := [("math/bits.deBruijn32tab", laid_math_bits_deBruijn32tab)] }
def BlocksIrreducibleSaid : Prop := blocksIrreducibleRow.holds Tryz.pinned (OpenSpec.ofChange blocksIrreducibleSpec)

/-- ITS FALSE NEIGHBOUR: 'it returns false'. Refute it at one input. -/
def blocksIrreducibleWrong : ChangeSpec := { name := "blocksIrreducible", fn := fun _ => fun
  | [d1, d2, d3] => { results := [.lit (.bool false)], args := [d1, d2, d3] }
  | _ => none }
def BlocksIrreducibleWrongFalsely : Prop := blocksIrreducibleRow.holds Tryz.pinned (OpenSpec.ofChange blocksIrreducibleWrong)

/-- 'sparselaw15.BlocksPermuted': WHATEVER THE INPUT: true; the input reads as it did. -/
def blocksPermutedSpec : ChangeSpec := { name := "blocksPermuted", fn := fun _ => fun
  | [d1, d2, d3, d4] => { results := [.lit (.bool true)], args := [d1, d2, d3, d4] }
  | _ => none }
def blocksPermutedRow : OpenClaim := { program := "ytgnfkbaghjmgiaagreatdoor", sum := "fe7970c01c946f1df96aa6c2779e2a7c648a77fcd39a3f7fb90092805eb276f2", func := "sparse/sparselaw15.BlocksPermuted", spec := "blocksPermuted", unfollowed := true, recurses := true, named := ["math/bits.deBruijn32tab"], apart := false, laid := [("math/bits.deBruijn32tab", laid_math_bits_deBruijn32tab)] }
def BlocksPermutedSaid : Prop := blocksPermutedRow.holds Tryz.pinned (OpenSpec.ofChange blocksPermutedSpec)

/-- ITS FALSE NEIGHBOUR: 'it returns false'. Refute it at one input. -/
def blocksPermutedWrong : ChangeSpec := { name := "blocksPermuted", fn := fun _ => fun
  | [d1, d2, d3, d4] => { results := [.lit (.bool false)], args := [d1, d2, d3, d4] }
  | _ => none }
def BlocksPermutedWrongFalsely : Prop := blocksPermutedRow.holds Tryz.pinned (OpenSpec.ofChange blocksPermutedWrong)

/- THE SECOND FORM. 'bulk': how many values and letters a reading holds, each counted each time it is reached (what is shared counts as often as it is met; a slice's spare places count too). A statement '..UptoSaid' is the law's where the arguments, and the package variables that the reading takes, are together of bulk at most 1048576: NARROWER than '..Said'. Prove '..Said' where nothing that the law and all that it calls make is longer than what came in: it says more and counts as full. Else prove '..UptoSaid'. A law counts once. -/
mutual
def uptoBulk {H : Type} : DataW H → Nat
  | .lit (.string bytes) => bytes.length + 1
  | .lit _ => 1
  | .nil => 1
  | .ptr d => uptoBulk d + 1
  | .slice elems spare => uptoBulkAll elems + uptoBulkAll spare + 1
  | .agg parts => uptoBulkAll parts + 1
  | .iface _ d => uptoBulk d + 1
  | .map entries => uptoBulkEntries entries + 1
  | .held _ => 1
def uptoBulkAll {H : Type} : List (DataW H) → Nat
  | [] => 0
  | d :: r => uptoBulk d + uptoBulkAll r
def uptoBulkEntries {H : Type} : List (Lit × DataW H) → Nat
  | [] => 0
  | x :: r => uptoBulkEntry x + uptoBulkEntries r
def uptoBulkEntry {H : Type} : Lit × DataW H → Nat
  | (.string bytes, d) => bytes.length + uptoBulk d + 1
  | (_, d) => uptoBulk d + 1
 end
def uptoSmall : (H : Type) → List (DataW H) → Bool := fun _ ds => decide (uptoBulkAll ds ≤ 1048576)
def OpenSpec.upto (s : _root_.Go.ChangeSpec) : _root_.Go.OpenSpec := { _root_.Go.OpenSpec.ofChange s with cond := some uptoSmall }

/-- 'sparselaw15.BlocksMade', WHERE WHAT IT READS IS OF BULK AT MOST 1048576: true; the input reads as it did. -/
def blocksMadeUptoRow : OpenClaim := { program := "ytgnfkbaghjmgiaagreatdoor", sum := "fe7970c01c946f1df96aa6c2779e2a7c648a77fcd39a3f7fb90092805eb276f2", func := "sparse/sparselaw15.BlocksMade", spec := "blocksMade", unfollowed := true, recurses := true, named := ["math/bits.deBruijn32tab"], apart := false, laid := [("math/bits.deBruijn32tab", laid_math_bits_deBruijn32tab)], narrowed := true }
def BlocksMadeUptoSaid : Prop := blocksMadeUptoRow.holds Tryz.pinned (OpenSpec.upto blocksMadeSpec)

/-- 'sparselaw15.BlocksCoarse', WHERE WHAT IT READS IS OF BULK AT MOST 1048576: true; the input reads as it did. -/
def blocksCoarseUptoRow : OpenClaim := { program := "ytgnfkbaghjmgiaagreatdoor", sum := "fe7970c01c946f1df96aa6c2779e2a7c648a77fcd39a3f7fb90092805eb276f2", func := "sparse/sparselaw15.BlocksCoarse", spec := "blocksCoarse", unfollowed := true, recurses := true, named := ["math/bits.deBruijn32tab"], apart := false, laid := [("math/bits.deBruijn32tab", laid_math_bits_deBruijn32tab)], narrowed := true }
def BlocksCoarseUptoSaid : Prop := blocksCoarseUptoRow.holds Tryz.pinned (OpenSpec.upto blocksCoarseSpec)

/-- 'sparselaw15.BlocksRank', WHERE WHAT IT READS IS OF BULK AT MOST 1048576: true; the input reads as it did. -/
def blocksRankUptoRow : OpenClaim := { program := "ytgnfkbaghjmgiaagreatdoor", sum := "fe7970c01c946f1df96aa6c2779e2a7c648a77fcd39a3f7fb90092805eb276f2", func := "sparse/sparselaw15.BlocksRank", spec := "blocksRank", unfollowed := true, recurses := true, named := ["math/bits.deBruijn32tab"], apart := false, laid := [("math/bits.deBruijn32tab", laid_math_bits_deBruijn32tab)], narrowed := true }
def BlocksRankUptoSaid : Prop := blocksRankUptoRow.holds Tryz.pinned (OpenSpec.upto blocksRankSpec)

/-- 'sparselaw15.BlocksTriangle', WHERE WHAT IT READS IS OF BULK AT MOST 1048576: true; the input reads as it did. -/
def blocksTriangleUptoRow : OpenClaim := { program := "ytgnfkbaghjmgiaagreatdoor", sum := "fe7970c01c946f1df96aa6c2779e2a7c648a77fcd39a3f7fb90092805eb276f2", func := "sparse/sparselaw15.BlocksTriangle", spec := "blocksTriangle", unfollowed := true, recurses := true, named := ["math/bits.deBruijn32tab"], apart := false, laid := [("math/bits.deBruijn32tab", laid_math_bits_deBruijn32tab)], narrowed := true }
def BlocksTriangleUptoSaid : Prop := blocksTriangleUptoRow.holds Tryz.pinned (OpenSpec.upto blocksTriangleSpec)

/-- 'sparselaw15.BlocksIrreducible', WHERE WHAT IT READS IS OF BULK AT MOST 1048576: true; the input reads as it did. -/
def blocksIrreducibleUptoRow : OpenClaim := { program := "ytgnfkbaghjmgiaagreatdoor", sum := "fe7970c01c946f1df96aa6c2779e2a7c648a77fcd39a3f7fb90092805eb276f2", func := "sparse/sparselaw15.BlocksIrreducible", spec := "blocksIrreducible", unfollowed := true, recurses := true, named := ["math/bits.deBruijn32tab"], apart := false, laid := [("math/bits.deBruijn32tab", laid_math_bits_deBruijn32tab)], narrowed := true }
def BlocksIrreducibleUptoSaid : Prop := blocksIrreducibleUptoRow.holds Tryz.pinned (OpenSpec.upto blocksIrreducibleSpec)

/-- 'sparselaw15.BlocksPermuted', WHERE WHAT IT READS IS OF BULK AT MOST 1048576: true; the input reads as it did. -/
def blocksPermutedUptoRow : OpenClaim := { program := "ytgnfkbaghjmgiaagreatdoor", sum := "fe7970c01c946f1df96aa6c2779e2a7c648a77fcd39a3f7fb90092805eb276f2", func := "sparse/sparselaw15.BlocksPermuted", spec := "blocksPermuted", unfollowed := true, recurses := true, named := ["math/bits.deBruijn32tab"], apart := false, laid := [("math/bits.deBruijn32tab", laid_math_bits_deBruijn32tab)], narrowed := true }
def BlocksPermutedUptoSaid : Prop := blocksPermutedUptoRow.holds Tryz.pinned (OpenSpec.upto blocksPermutedSpec)

end Rows
end Go.Proofs.YtgnfkbaghjmgiaaGreatDoor
