/-
  No cell of these rows narrows 'for every input' (looked for: loops, veiled, ifaces, maps, wideKeys, modest, calm, conditions, laid).
  DERIVED. THE GIVEN ROWS OF THIS SEAT. 4 by the template 'for every input the law returns true; each argument reads behind the call as it read before'; 0 by the template 'total and deterministic' (their statements: YthpeajepbffinaaTotals.lean).
  GIVEN WITH THE SEED: the statements are not yours to turn. If you find one false, say at which input.
  Laid BY PROGRAM, IN A SANDBOX (cutbox-rows.mjs): the forced cells as the released guide's own fill.sh prints them over the translation a0da05c080aca2c0… (all of the seat's roots in one cut). By AI agents, Wed Nov 11 2026. No macro, syntax, notation, axiom, sorry.
-/
import Derived.Test.YthpeajepbffinaaChecked
import GoSem.Claim
import GoSem.ClaimJoined
import GoSem.ClaimMapViews
import Derived.JoinedTies
import Derived.KernelRfl
namespace Go.Proofs.Ythpeajepbffinaa
/- THE CELL 'sum', in the pinned program and in every row, IS THE sha256 OF THE DUMP (.gsa) THAT YthpeajepbffinaaProg.lean LOADS. Nothing in Lean hashes anything: it is a label: what it is worth is what the hold of that sum in a sandbox is worth. -/
noncomputable def Try.pinned : Pinned := { name := "ythpeajepbffinaa", sum := "a0da05c080aca2c06239cb195a9d912aa7fa1d7c094dcab89fb0f96c3abafd5d", checked := Try.checked }
namespace Rows
def none {H : Type} : Left H := { results := [], args := [] }

/-- 'sparselaw18.DissectMatch': WHATEVER THE INPUT: true; the input reads as it did. -/
def dissectMatchSpec : ChangeSpec := { name := "dissectMatch", fn := fun _ => fun
  | [d1, d2, d3] => { results := [.lit (.bool true)], args := [d1, d2, d3] }
  | _ => none }
def dissectMatchRow : OpenClaim := { program := "ythpeajepbffinaa", sum := "a0da05c080aca2c06239cb195a9d912aa7fa1d7c094dcab89fb0f96c3abafd5d", func := "sparse/sparselaw18.DissectMatch", spec := "dissectMatch", unfollowed := true, recurses := true, apart := false }
def DissectMatchSaid : Prop := dissectMatchRow.holds Try.pinned (OpenSpec.ofChange dissectMatchSpec)

/-- ITS FALSE NEIGHBOUR: 'it returns false'. Refute it at one input. -/
def dissectMatchWrong : ChangeSpec := { name := "dissectMatch", fn := fun _ => fun
  | [d1, d2, d3] => { results := [.lit (.bool false)], args := [d1, d2, d3] }
  | _ => none }
def DissectMatchWrongFalsely : Prop := dissectMatchRow.holds Try.pinned (OpenSpec.ofChange dissectMatchWrong)

/-- 'sparselaw18.DissectSmallest': WHATEVER THE INPUT: true; the input reads as it did. -/
def dissectSmallestSpec : ChangeSpec := { name := "dissectSmallest", fn := fun _ => fun
  | [d1, d2] => { results := [.lit (.bool true)], args := [d1, d2] }
  | _ => none }
def dissectSmallestRow : OpenClaim := { program := "ythpeajepbffinaa", sum := "a0da05c080aca2c06239cb195a9d912aa7fa1d7c094dcab89fb0f96c3abafd5d", func := "sparse/sparselaw18.DissectSmallest", spec := "dissectSmallest", unfollowed := true, recurses := true, apart := false }
def DissectSmallestSaid : Prop := dissectSmallestRow.holds Try.pinned (OpenSpec.ofChange dissectSmallestSpec)

/-- ITS FALSE NEIGHBOUR: 'it returns false'. Refute it at one input. -/
def dissectSmallestWrong : ChangeSpec := { name := "dissectSmallest", fn := fun _ => fun
  | [d1, d2] => { results := [.lit (.bool false)], args := [d1, d2] }
  | _ => none }
def DissectSmallestWrongFalsely : Prop := dissectSmallestRow.holds Try.pinned (OpenSpec.ofChange dissectSmallestWrong)

/-- 'sparselaw18.DissectRefined': WHATEVER THE INPUT: true; the input reads as it did. -/
def dissectRefinedSpec : ChangeSpec := { name := "dissectRefined", fn := fun _ => fun
  | [d1, d2, d3] => { results := [.lit (.bool true)], args := [d1, d2, d3] }
  | _ => none }
def dissectRefinedRow : OpenClaim := { program := "ythpeajepbffinaa", sum := "a0da05c080aca2c06239cb195a9d912aa7fa1d7c094dcab89fb0f96c3abafd5d", func := "sparse/sparselaw18.DissectRefined", spec := "dissectRefined", unfollowed := true, recurses := true, apart := false }
def DissectRefinedSaid : Prop := dissectRefinedRow.holds Try.pinned (OpenSpec.ofChange dissectRefinedSpec)

/-- ITS FALSE NEIGHBOUR: 'it returns false'. Refute it at one input. -/
def dissectRefinedWrong : ChangeSpec := { name := "dissectRefined", fn := fun _ => fun
  | [d1, d2, d3] => { results := [.lit (.bool false)], args := [d1, d2, d3] }
  | _ => none }
def DissectRefinedWrongFalsely : Prop := dissectRefinedRow.holds Try.pinned (OpenSpec.ofChange dissectRefinedWrong)

/-- 'sparselaw18.DissectCoarse': WHATEVER THE INPUT: true; the input reads as it did. -/
def dissectCoarseSpec : ChangeSpec := { name := "dissectCoarse", fn := fun _ => fun
  | [d1, d2, d3, d4] => { results := [.lit (.bool true)], args := [d1, d2, d3, d4] }
  | _ => none }
def dissectCoarseRow : OpenClaim := { program := "ythpeajepbffinaa", sum := "a0da05c080aca2c06239cb195a9d912aa7fa1d7c094dcab89fb0f96c3abafd5d", func := "sparse/sparselaw18.DissectCoarse", spec := "dissectCoarse", unfollowed := true, recurses := true, apart := false }
def DissectCoarseSaid : Prop := dissectCoarseRow.holds Try.pinned (OpenSpec.ofChange dissectCoarseSpec)

/-- ITS FALSE NEIGHBOUR: 'it returns false'. Refute it at one input. -/
def dissectCoarseWrong : ChangeSpec := { name := "dissectCoarse", fn := fun _ => fun
  | [d1, d2, d3, d4] => { results := [.lit (.bool false)], args := [d1, d2, d3, d4] }
  | _ => none }
def DissectCoarseWrongFalsely : Prop := dissectCoarseRow.holds Try.pinned (OpenSpec.ofChange dissectCoarseWrong)

/- THE SECOND FORM. 'bulk': how many values and letters a reading holds, each counted each time it is reached (what is shared counts as often as it is met; a slice's spare places count too). A statement '..UptoSaid' is the law's where the arguments, and the package variables that the reading takes, are together of bulk at most 1048576: NARROWER than '..Said'. Prove '..Said' where nothing that the law and all that it calls make is longer than what came in: it says more and counts as full. Else prove '..UptoSaid'. A law counts once. -/
mutual
def uptoBulk {H : Type} : DataW H → Nat
  | .lit (.string bytes) => bytes.length + 1
  | .lit _ => 1
  | .nil => 1
  | .ptr d => uptoBulk d + 1
  | .slice elems spare => uptoBulkAll elems + uptoBulkAll spare + 1
  | .agg parts => uptoBulkAll parts + 1
  | .iface _ d => uptoBulk d + 1
  | .map entries => uptoBulkEntries entries + 1
  | .held _ => 1
def uptoBulkAll {H : Type} : List (DataW H) → Nat
  | [] => 0
  | d :: r => uptoBulk d + uptoBulkAll r
def uptoBulkEntries {H : Type} : List (Lit × DataW H) → Nat
  | [] => 0
  | x :: r => uptoBulkEntry x + uptoBulkEntries r
def uptoBulkEntry {H : Type} : Lit × DataW H → Nat
  | (.string bytes, d) => bytes.length + uptoBulk d + 1
  | (_, d) => uptoBulk d + 1
 end
def uptoSmall : (H : Type) → List (DataW H) → Bool := fun _ ds => decide (uptoBulkAll ds ≤ 1048576)
def OpenSpec.upto (s : _root_.Go.ChangeSpec) : _root_.Go.OpenSpec := { _root_.Go.OpenSpec.ofChange s with cond := some uptoSmall }

/-- 'sparselaw18.DissectMatch', WHERE WHAT IT READS IS OF BULK AT MOST 1048576: true; the input reads as it did. -/
def dissectMatchUptoRow : OpenClaim := { program := "ythpeajepbffinaa", sum := "a0da05c080aca2c06239cb195a9d912aa7fa1d7c094dcab89fb0f96c3abafd5d", func := "sparse/sparselaw18.DissectMatch", spec := "dissectMatch", unfollowed := true, recurses := true, apart := false, narrowed := true }
def DissectMatchUptoSaid : Prop := dissectMatchUptoRow.holds Try.pinned (OpenSpec.upto dissectMatchSpec)

/-- 'sparselaw18.DissectSmallest', WHERE WHAT IT READS IS OF BULK AT MOST 1048576: true; the input reads as it did. -/
def dissectSmallestUptoRow : OpenClaim := { program := "ythpeajepbffinaa", sum := "a0da05c080aca2c06239cb195a9d912aa7fa1d7c094dcab89fb0f96c3abafd5d", func := "sparse/sparselaw18.DissectSmallest", spec := "dissectSmallest", unfollowed := true, recurses := true, apart := false, narrowed := true }
def DissectSmallestUptoSaid : Prop := dissectSmallestUptoRow.holds Try.pinned (OpenSpec.upto dissectSmallestSpec)

/-- 'sparselaw18.DissectRefined', WHERE WHAT IT READS IS OF BULK AT MOST 1048576: true; the input reads as it did. -/
def dissectRefinedUptoRow : OpenClaim := { program := "ythpeajepbffinaa", sum := "a0da05c080aca2c06239cb195a9d912aa7fa1d7c094dcab89fb0f96c3abafd5d", func := "sparse/sparselaw18.DissectRefined", spec := "dissectRefined", unfollowed := true, recurses := true, apart := false, narrowed := true }
def DissectRefinedUptoSaid : Prop := dissectRefinedUptoRow.holds Try.pinned (OpenSpec.upto dissectRefinedSpec)

/-- 'sparselaw18.DissectCoarse', WHERE WHAT IT READS IS OF BULK AT MOST 1048576: true; the input reads as it did. -/
def dissectCoarseUptoRow : OpenClaim := { program := "ythpeajepbffinaa", sum := "a0da05c080aca2c06239cb195a9d912aa7fa1d7c094dcab89fb0f96c3abafd5d", func := "sparse/sparselaw18.DissectCoarse", spec := "dissectCoarse", unfollowed := true, recurses := true, apart := false, narrowed := true }
def DissectCoarseUptoSaid : Prop := dissectCoarseUptoRow.holds Try.pinned (OpenSpec.upto dissectCoarseSpec)

end Rows
end Go.Proofs.Ythpeajepbffinaa
