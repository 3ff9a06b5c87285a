/-
  No cell of these rows narrows 'for every input' (looked for: loops, veiled, ifaces, maps, wideKeys, modest, calm, conditions, laid).
  DERIVED. THE GIVEN ROWS OF THIS SEAT. 5 by the template 'for every input the law returns true; each argument reads behind the call as it read before'; 0 by the template 'total and deterministic' (their statements: YthpeajepbffinaaGreatTotals.lean).
  GIVEN WITH THE SEED: the statements are not yours to turn. If you find one false, say at which input.
  Laid BY PROGRAM, IN A SANDBOX (cutbox-rows.mjs): the forced cells as the released guide's own fill.sh prints them over the translation df983f6cb3b9ceb1… (all of the seat's roots in one cut). By AI agents, Wed Nov 11 2026. No macro, syntax, notation, axiom, sorry.
-/
import Derived.Test.YthpeajepbffinaaGreatChecked
import GoSem.Claim
import GoSem.ClaimJoined
import GoSem.ClaimMapViews
import Derived.JoinedTies
import Derived.KernelRfl
namespace Go.Proofs.YthpeajepbffinaaGreat
/- THE CELL 'sum', in the pinned program and in every row, IS THE sha256 OF THE DUMP (.gsa) THAT YthpeajepbffinaaGreatProg.lean LOADS. Nothing in Lean hashes anything: it is a label: what it is worth is what the hold of that sum in a sandbox is worth. -/
noncomputable def Tryz.pinned : Pinned := { name := "ythpeajepbffinaagreat", sum := "df983f6cb3b9ceb152211599a98db1379d377beaa8c178934fab6fce1ebf25eb", checked := Tryz.checked }
namespace Rows
def none {H : Type} : Left H := { results := [], args := [] }

/-- 'sparselaw18.DissectMade': WHATEVER THE INPUT: true; the input reads as it did. -/
def dissectMadeSpec : ChangeSpec := { name := "dissectMade", fn := fun _ => fun
  | [d1, d2, d3] => { results := [.lit (.bool true)], args := [d1, d2, d3] }
  | _ => none }
def dissectMadeRow : OpenClaim := { program := "ythpeajepbffinaagreat", sum := "df983f6cb3b9ceb152211599a98db1379d377beaa8c178934fab6fce1ebf25eb", func := "sparse/sparselaw18.DissectMade", spec := "dissectMade", unfollowed := true, recurses := true, apart := false }
def DissectMadeSaid : Prop := dissectMadeRow.holds Tryz.pinned (OpenSpec.ofChange dissectMadeSpec)

/-- ITS FALSE NEIGHBOUR: 'it returns false'. Refute it at one input. -/
def dissectMadeWrong : ChangeSpec := { name := "dissectMade", fn := fun _ => fun
  | [d1, d2, d3] => { results := [.lit (.bool false)], args := [d1, d2, d3] }
  | _ => none }
def DissectMadeWrongFalsely : Prop := dissectMadeRow.holds Tryz.pinned (OpenSpec.ofChange dissectMadeWrong)

/-- 'sparselaw18.DissectWeighted': WHATEVER THE INPUT: true; the input reads as it did. -/
def dissectWeightedSpec : ChangeSpec := { name := "dissectWeighted", fn := fun _ => fun
  | [d1, d2] => { results := [.lit (.bool true)], args := [d1, d2] }
  | _ => none }
def dissectWeightedRow : OpenClaim := { program := "ythpeajepbffinaagreat", sum := "df983f6cb3b9ceb152211599a98db1379d377beaa8c178934fab6fce1ebf25eb", func := "sparse/sparselaw18.DissectWeighted", spec := "dissectWeighted", unfollowed := true, recurses := true, apart := false }
def DissectWeightedSaid : Prop := dissectWeightedRow.holds Tryz.pinned (OpenSpec.ofChange dissectWeightedSpec)

/-- ITS FALSE NEIGHBOUR: 'it returns false'. Refute it at one input. -/
def dissectWeightedWrong : ChangeSpec := { name := "dissectWeighted", fn := fun _ => fun
  | [d1, d2] => { results := [.lit (.bool false)], args := [d1, d2] }
  | _ => none }
def DissectWeightedWrongFalsely : Prop := dissectWeightedRow.holds Tryz.pinned (OpenSpec.ofChange dissectWeightedWrong)

/-- 'sparselaw18.DissectSeparates': WHATEVER THE INPUT: true; the input reads as it did. -/
def dissectSeparatesSpec : ChangeSpec := { name := "dissectSeparates", fn := fun _ => fun
  | [d1, d2, d3] => { results := [.lit (.bool true)], args := [d1, d2, d3] }
  | _ => none }
def dissectSeparatesRow : OpenClaim := { program := "ythpeajepbffinaagreat", sum := "df983f6cb3b9ceb152211599a98db1379d377beaa8c178934fab6fce1ebf25eb", func := "sparse/sparselaw18.DissectSeparates", spec := "dissectSeparates", unfollowed := true, recurses := true, apart := false }
def DissectSeparatesSaid : Prop := dissectSeparatesRow.holds Tryz.pinned (OpenSpec.ofChange dissectSeparatesSpec)

/-- ITS FALSE NEIGHBOUR: 'it returns false'. Refute it at one input. -/
def dissectSeparatesWrong : ChangeSpec := { name := "dissectSeparates", fn := fun _ => fun
  | [d1, d2, d3] => { results := [.lit (.bool false)], args := [d1, d2, d3] }
  | _ => none }
def DissectSeparatesWrongFalsely : Prop := dissectSeparatesRow.holds Tryz.pinned (OpenSpec.ofChange dissectSeparatesWrong)

/-- 'sparselaw18.DissectOrders': WHATEVER THE INPUT: true; the input reads as it did. -/
def dissectOrdersSpec : ChangeSpec := { name := "dissectOrders", fn := fun _ => fun
  | [d1, d2, d3] => { results := [.lit (.bool true)], args := [d1, d2, d3] }
  | _ => none }
def dissectOrdersRow : OpenClaim := { program := "ythpeajepbffinaagreat", sum := "df983f6cb3b9ceb152211599a98db1379d377beaa8c178934fab6fce1ebf25eb", func := "sparse/sparselaw18.DissectOrders", spec := "dissectOrders", unfollowed := true, recurses := true, apart := false }
def DissectOrdersSaid : Prop := dissectOrdersRow.holds Tryz.pinned (OpenSpec.ofChange dissectOrdersSpec)

/-- ITS FALSE NEIGHBOUR: 'it returns false'. Refute it at one input. -/
def dissectOrdersWrong : ChangeSpec := { name := "dissectOrders", fn := fun _ => fun
  | [d1, d2, d3] => { results := [.lit (.bool false)], args := [d1, d2, d3] }
  | _ => none }
def DissectOrdersWrongFalsely : Prop := dissectOrdersRow.holds Tryz.pinned (OpenSpec.ofChange dissectOrdersWrong)

/-- 'sparselaw18.DissectParts': WHATEVER THE INPUT: true; the input reads as it did. -/
def dissectPartsSpec : ChangeSpec := { name := "dissectParts", fn := fun _ => fun
  | [d1, d2, d3] => { results := [.lit (.bool true)], args := [d1, d2, d3] }
  | _ => none }
def dissectPartsRow : OpenClaim := { program := "ythpeajepbffinaagreat", sum := "df983f6cb3b9ceb152211599a98db1379d377beaa8c178934fab6fce1ebf25eb", func := "sparse/sparselaw18.DissectParts", spec := "dissectParts", unfollowed := true, recurses := true, apart := false }
def DissectPartsSaid : Prop := dissectPartsRow.holds Tryz.pinned (OpenSpec.ofChange dissectPartsSpec)

/-- ITS FALSE NEIGHBOUR: 'it returns false'. Refute it at one input. -/
def dissectPartsWrong : ChangeSpec := { name := "dissectParts", fn := fun _ => fun
  | [d1, d2, d3] => { results := [.lit (.bool false)], args := [d1, d2, d3] }
  | _ => none }
def DissectPartsWrongFalsely : Prop := dissectPartsRow.holds Tryz.pinned (OpenSpec.ofChange dissectPartsWrong)

/- THE SECOND FORM. 'bulk': how many values and letters a reading holds, each counted each time it is reached (what is shared counts as often as it is met; a slice's spare places count too). A statement '..UptoSaid' is the law's where the arguments, and the package variables that the reading takes, are together of bulk at most 1048576: NARROWER than '..Said'. Prove '..Said' where nothing that the law and all that it calls make is longer than what came in: it says more and counts as full. Else prove '..UptoSaid'. A law counts once. -/
mutual
def uptoBulk {H : Type} : DataW H → Nat
  | .lit (.string bytes) => bytes.length + 1
  | .lit _ => 1
  | .nil => 1
  | .ptr d => uptoBulk d + 1
  | .slice elems spare => uptoBulkAll elems + uptoBulkAll spare + 1
  | .agg parts => uptoBulkAll parts + 1
  | .iface _ d => uptoBulk d + 1
  | .map entries => uptoBulkEntries entries + 1
  | .held _ => 1
def uptoBulkAll {H : Type} : List (DataW H) → Nat
  | [] => 0
  | d :: r => uptoBulk d + uptoBulkAll r
def uptoBulkEntries {H : Type} : List (Lit × DataW H) → Nat
  | [] => 0
  | x :: r => uptoBulkEntry x + uptoBulkEntries r
def uptoBulkEntry {H : Type} : Lit × DataW H → Nat
  | (.string bytes, d) => bytes.length + uptoBulk d + 1
  | (_, d) => uptoBulk d + 1
 end
def uptoSmall : (H : Type) → List (DataW H) → Bool := fun _ ds => decide (uptoBulkAll ds ≤ 1048576)
def OpenSpec.upto (s : _root_.Go.ChangeSpec) : _root_.Go.OpenSpec := { _root_.Go.OpenSpec.ofChange s with cond := some uptoSmall }

/-- 'sparselaw18.DissectMade', WHERE WHAT IT READS IS OF BULK AT MOST 1048576: true; the input reads as it did. -/
def dissectMadeUptoRow : OpenClaim := { program := "ythpeajepbffinaagreat", sum := "df983f6cb3b9ceb152211599a98db1379d377beaa8c178934fab6fce1ebf25eb", func := "sparse/sparselaw18.DissectMade", spec := "dissectMade", unfollowed := true, recurses := true, apart := false, narrowed := true }
def DissectMadeUptoSaid : Prop := dissectMadeUptoRow.holds Tryz.pinned (OpenSpec.upto dissectMadeSpec)

/-- 'sparselaw18.DissectWeighted', WHERE WHAT IT READS IS OF BULK AT MOST 1048576: true; the input reads as it did. -/
def dissectWeightedUptoRow : OpenClaim := { program := "ythpeajepbffinaagreat", sum := "df983f6cb3b9ceb152211599a98db1379d377beaa8c178934fab6fce1ebf25eb", func := "sparse/sparselaw18.DissectWeighted", spec := "dissectWeighted", unfollowed := true, recurses := true, apart := false, narrowed := true }
def DissectWeightedUptoSaid : Prop := dissectWeightedUptoRow.holds Tryz.pinned (OpenSpec.upto dissectWeightedSpec)

/-- 'sparselaw18.DissectSeparates', WHERE WHAT IT READS IS OF BULK AT MOST 1048576: true; the input reads as it did. -/
def dissectSeparatesUptoRow : OpenClaim := { program := "ythpeajepbffinaagreat", sum := "df983f6cb3b9ceb152211599a98db1379d377beaa8c178934fab6fce1ebf25eb", func := "sparse/sparselaw18.DissectSeparates", spec := "dissectSeparates", unfollowed := true, recurses := true, apart := false, narrowed := true }
def DissectSeparatesUptoSaid : Prop := dissectSeparatesUptoRow.holds Tryz.pinned (OpenSpec.upto dissectSeparatesSpec)

/-- 'sparselaw18.DissectOrders', WHERE WHAT IT READS IS OF BULK AT MOST 1048576: true; the input reads as it did. -/
def dissectOrdersUptoRow : OpenClaim := { program := "ythpeajepbffinaagreat", sum := "df983f6cb3b9ceb152211599a98db1379d377beaa8c178934fab6fce1ebf25eb", func := "sparse/sparselaw18.DissectOrders", spec := "dissectOrders", unfollowed := true, recurses := true, apart := false, narrowed := true }
def DissectOrdersUptoSaid : Prop := dissectOrdersUptoRow.holds Tryz.pinned (OpenSpec.upto dissectOrdersSpec)

/-- 'sparselaw18.DissectParts', WHERE WHAT IT READS IS OF BULK AT MOST 1048576: true; the input reads as it did. -/
def dissectPartsUptoRow : OpenClaim := { program := "ythpeajepbffinaagreat", sum := "df983f6cb3b9ceb152211599a98db1379d377beaa8c178934fab6fce1ebf25eb", func := "sparse/sparselaw18.DissectParts", spec := "dissectParts", unfollowed := true, recurses := true, apart := false, narrowed := true }
def DissectPartsUptoSaid : Prop := dissectPartsUptoRow.holds Tryz.pinned (OpenSpec.upto dissectPartsSpec)

end Rows
end Go.Proofs.YthpeajepbffinaaGreat
