/-
  No cell of these rows narrows 'for every input' (looked for: loops, veiled, ifaces, maps, wideKeys, modest, calm, conditions, laid).
  DERIVED. THE GIVEN ROWS OF THIS SEAT. 7 by the template 'for every input the law returns true; each argument reads behind the call as it read before'; 0 by the template 'total and deterministic' (their statements: YtoelidgkfpmgnaaTotals.lean).
  GIVEN WITH THE SEED: the statements are not yours to turn. If you find one false, say at which input.
  Laid BY PROGRAM, IN A SANDBOX (cutbox-rows.mjs): the forced cells as the released guide's own fill.sh prints them over the translation 46d90d2468e29cb4… (all of the seat's roots in one cut). By AI agents, Wed Nov 11 2026. No macro, syntax, notation, axiom, sorry.
-/
import Derived.Test.YtoelidgkfpmgnaaChecked
import GoSem.Claim
import GoSem.ClaimJoined
import GoSem.ClaimMapViews
import Derived.JoinedTies
import Derived.KernelRfl
namespace Go.Proofs.Ytoelidgkfpmgnaa
/- THE CELL 'sum', in the pinned program and in every row, IS THE sha256 OF THE DUMP (.gsa) THAT YtoelidgkfpmgnaaProg.lean LOADS. Nothing in Lean hashes anything: it is a label: what it is worth is what the hold of that sum in a sandbox is worth. -/
noncomputable def Try.pinned : Pinned := { name := "ytoelidgkfpmgnaa", sum := "46d90d2468e29cb430189f98ed55a2d0557657f8f1ecbdbd34bdfcbe914843c4", checked := Try.checked }
namespace Rows
def none {H : Type} : Left H := { results := [], args := [] }

/-- 'sparselaw19.EtreeAncestors': WHATEVER THE INPUT: true; the input reads as it did. -/
def etreeAncestorsSpec : ChangeSpec := { name := "etreeAncestors", fn := fun _ => fun
  | [d1, d2] => { results := [.lit (.bool true)], args := [d1, d2] }
  | _ => none }
def etreeAncestorsRow : OpenClaim := { program := "ytoelidgkfpmgnaa", sum := "46d90d2468e29cb430189f98ed55a2d0557657f8f1ecbdbd34bdfcbe914843c4", func := "sparse/sparselaw19.EtreeAncestors", spec := "etreeAncestors", unfollowed := true, recurses := true, apart := false }
def EtreeAncestorsSaid : Prop := etreeAncestorsRow.holds Try.pinned (OpenSpec.ofChange etreeAncestorsSpec)

/-- ITS FALSE NEIGHBOUR: 'it returns false'. Refute it at one input. -/
def etreeAncestorsWrong : ChangeSpec := { name := "etreeAncestors", fn := fun _ => fun
  | [d1, d2] => { results := [.lit (.bool false)], args := [d1, d2] }
  | _ => none }
def EtreeAncestorsWrongFalsely : Prop := etreeAncestorsRow.holds Try.pinned (OpenSpec.ofChange etreeAncestorsWrong)

/-- 'sparselaw19.EtreeLists': WHATEVER THE INPUT: true; the input reads as it did. -/
def etreeListsSpec : ChangeSpec := { name := "etreeLists", fn := fun _ => fun
  | [d] => { results := [.lit (.bool true)], args := [d] }
  | _ => none }
def etreeListsRow : OpenClaim := { program := "ytoelidgkfpmgnaa", sum := "46d90d2468e29cb430189f98ed55a2d0557657f8f1ecbdbd34bdfcbe914843c4", func := "sparse/sparselaw19.EtreeLists", spec := "etreeLists", unfollowed := true, recurses := true, apart := false }
def EtreeListsSaid : Prop := etreeListsRow.holds Try.pinned (OpenSpec.ofChange etreeListsSpec)

/-- ITS FALSE NEIGHBOUR: 'it returns false'. Refute it at one input. -/
def etreeListsWrong : ChangeSpec := { name := "etreeLists", fn := fun _ => fun
  | [d] => { results := [.lit (.bool false)], args := [d] }
  | _ => none }
def EtreeListsWrongFalsely : Prop := etreeListsRow.holds Try.pinned (OpenSpec.ofChange etreeListsWrong)

/-- 'sparselaw19.EtreeMade': WHATEVER THE INPUT: true; the input reads as it did. -/
def etreeMadeSpec : ChangeSpec := { name := "etreeMade", fn := fun _ => fun
  | [d1, d2] => { results := [.lit (.bool true)], args := [d1, d2] }
  | _ => none }
def etreeMadeRow : OpenClaim := { program := "ytoelidgkfpmgnaa", sum := "46d90d2468e29cb430189f98ed55a2d0557657f8f1ecbdbd34bdfcbe914843c4", func := "sparse/sparselaw19.EtreeMade", spec := "etreeMade", unfollowed := true, recurses := true, apart := false }
def EtreeMadeSaid : Prop := etreeMadeRow.holds Try.pinned (OpenSpec.ofChange etreeMadeSpec)

/-- ITS FALSE NEIGHBOUR: 'it returns false'. Refute it at one input. -/
def etreeMadeWrong : ChangeSpec := { name := "etreeMade", fn := fun _ => fun
  | [d1, d2] => { results := [.lit (.bool false)], args := [d1, d2] }
  | _ => none }
def EtreeMadeWrongFalsely : Prop := etreeMadeRow.holds Try.pinned (OpenSpec.ofChange etreeMadeWrong)

/-- 'sparselaw19.EtreeSubtrees': WHATEVER THE INPUT: true; the input reads as it did. -/
def etreeSubtreesSpec : ChangeSpec := { name := "etreeSubtrees", fn := fun _ => fun
  | [d1, d2] => { results := [.lit (.bool true)], args := [d1, d2] }
  | _ => none }
def etreeSubtreesRow : OpenClaim := { program := "ytoelidgkfpmgnaa", sum := "46d90d2468e29cb430189f98ed55a2d0557657f8f1ecbdbd34bdfcbe914843c4", func := "sparse/sparselaw19.EtreeSubtrees", spec := "etreeSubtrees", unfollowed := true, recurses := true, apart := false }
def EtreeSubtreesSaid : Prop := etreeSubtreesRow.holds Try.pinned (OpenSpec.ofChange etreeSubtreesSpec)

/-- ITS FALSE NEIGHBOUR: 'it returns false'. Refute it at one input. -/
def etreeSubtreesWrong : ChangeSpec := { name := "etreeSubtrees", fn := fun _ => fun
  | [d1, d2] => { results := [.lit (.bool false)], args := [d1, d2] }
  | _ => none }
def EtreeSubtreesWrongFalsely : Prop := etreeSubtreesRow.holds Try.pinned (OpenSpec.ofChange etreeSubtreesWrong)

/-- 'sparselaw19.EtreeAny': WHATEVER THE INPUT: true; the input reads as it did. -/
def etreeAnySpec : ChangeSpec := { name := "etreeAny", fn := fun _ => fun
  | [d1, d2] => { results := [.lit (.bool true)], args := [d1, d2] }
  | _ => none }
def etreeAnyRow : OpenClaim := { program := "ytoelidgkfpmgnaa", sum := "46d90d2468e29cb430189f98ed55a2d0557657f8f1ecbdbd34bdfcbe914843c4", func := "sparse/sparselaw19.EtreeAny", spec := "etreeAny", unfollowed := true, recurses := true, apart := false }
def EtreeAnySaid : Prop := etreeAnyRow.holds Try.pinned (OpenSpec.ofChange etreeAnySpec)

/-- ITS FALSE NEIGHBOUR: 'it returns false'. Refute it at one input. -/
def etreeAnyWrong : ChangeSpec := { name := "etreeAny", fn := fun _ => fun
  | [d1, d2] => { results := [.lit (.bool false)], args := [d1, d2] }
  | _ => none }
def EtreeAnyWrongFalsely : Prop := etreeAnyRow.holds Try.pinned (OpenSpec.ofChange etreeAnyWrong)

/-- 'sparselaw19.EtreeComponents': WHATEVER THE INPUT: true; the input reads as it did. -/
def etreeComponentsSpec : ChangeSpec := { name := "etreeComponents", fn := fun _ => fun
  | [d1, d2] => { results := [.lit (.bool true)], args := [d1, d2] }
  | _ => none }
def etreeComponentsRow : OpenClaim := { program := "ytoelidgkfpmgnaa", sum := "46d90d2468e29cb430189f98ed55a2d0557657f8f1ecbdbd34bdfcbe914843c4", func := "sparse/sparselaw19.EtreeComponents", spec := "etreeComponents", unfollowed := true, recurses := true, apart := false }
def EtreeComponentsSaid : Prop := etreeComponentsRow.holds Try.pinned (OpenSpec.ofChange etreeComponentsSpec)

/-- ITS FALSE NEIGHBOUR: 'it returns false'. Refute it at one input. -/
def etreeComponentsWrong : ChangeSpec := { name := "etreeComponents", fn := fun _ => fun
  | [d1, d2] => { results := [.lit (.bool false)], args := [d1, d2] }
  | _ => none }
def EtreeComponentsWrongFalsely : Prop := etreeComponentsRow.holds Try.pinned (OpenSpec.ofChange etreeComponentsWrong)

/-- 'sparselaw19.EtreePostorder': WHATEVER THE INPUT: true; the input reads as it did. -/
def etreePostorderSpec : ChangeSpec := { name := "etreePostorder", fn := fun _ => fun
  | [d1, d2] => { results := [.lit (.bool true)], args := [d1, d2] }
  | _ => none }
def etreePostorderRow : OpenClaim := { program := "ytoelidgkfpmgnaa", sum := "46d90d2468e29cb430189f98ed55a2d0557657f8f1ecbdbd34bdfcbe914843c4", func := "sparse/sparselaw19.EtreePostorder", spec := "etreePostorder", unfollowed := true, recurses := true, apart := false }
def EtreePostorderSaid : Prop := etreePostorderRow.holds Try.pinned (OpenSpec.ofChange etreePostorderSpec)

/-- ITS FALSE NEIGHBOUR: 'it returns false'. Refute it at one input. -/
def etreePostorderWrong : ChangeSpec := { name := "etreePostorder", fn := fun _ => fun
  | [d1, d2] => { results := [.lit (.bool false)], args := [d1, d2] }
  | _ => none }
def EtreePostorderWrongFalsely : Prop := etreePostorderRow.holds Try.pinned (OpenSpec.ofChange etreePostorderWrong)

/- THE SECOND FORM. 'bulk': how many values and letters a reading holds, each counted each time it is reached (what is shared counts as often as it is met; a slice's spare places count too). A statement '..UptoSaid' is the law's where the arguments, and the package variables that the reading takes, are together of bulk at most 1048576: NARROWER than '..Said'. Prove '..Said' where nothing that the law and all that it calls make is longer than what came in: it says more and counts as full. Else prove '..UptoSaid'. A law counts once. -/
mutual
def uptoBulk {H : Type} : DataW H → Nat
  | .lit (.string bytes) => bytes.length + 1
  | .lit _ => 1
  | .nil => 1
  | .ptr d => uptoBulk d + 1
  | .slice elems spare => uptoBulkAll elems + uptoBulkAll spare + 1
  | .agg parts => uptoBulkAll parts + 1
  | .iface _ d => uptoBulk d + 1
  | .map entries => uptoBulkEntries entries + 1
  | .held _ => 1
def uptoBulkAll {H : Type} : List (DataW H) → Nat
  | [] => 0
  | d :: r => uptoBulk d + uptoBulkAll r
def uptoBulkEntries {H : Type} : List (Lit × DataW H) → Nat
  | [] => 0
  | x :: r => uptoBulkEntry x + uptoBulkEntries r
def uptoBulkEntry {H : Type} : Lit × DataW H → Nat
  | (.string bytes, d) => bytes.length + uptoBulk d + 1
  | (_, d) => uptoBulk d + 1
 end
def uptoSmall : (H : Type) → List (DataW H) → Bool := fun _ ds => decide (uptoBulkAll ds ≤ 1048576)
def OpenSpec.upto (s : _root_.Go.ChangeSpec) : _root_.Go.OpenSpec := { _root_.Go.OpenSpec.ofChange s with cond := some uptoSmall }

/-- 'sparselaw19.EtreeAncestors', WHERE WHAT IT READS IS OF BULK AT MOST 1048576: true; the input reads as it did. -/
def etreeAncestorsUptoRow : OpenClaim := { program := "ytoelidgkfpmgnaa", sum := "46d90d2468e29cb430189f98ed55a2d0557657f8f1ecbdbd34bdfcbe914843c4", func := "sparse/sparselaw19.EtreeAncestors", spec := "etreeAncestors", unfollowed := true, recurses := true, apart := false, narrowed := true }
def EtreeAncestorsUptoSaid : Prop := etreeAncestorsUptoRow.holds Try.pinned (OpenSpec.upto etreeAncestorsSpec)

/-- 'sparselaw19.EtreeLists', WHERE WHAT IT READS IS OF BULK AT MOST 1048576: true; the input reads as it did. -/
def etreeListsUptoRow : OpenClaim := { program := "ytoelidgkfpmgnaa", sum := "46d90d2468e29cb430189f98ed55a2d0557657f8f1ecbdbd34bdfcbe914843c4", func := "sparse/sparselaw19.EtreeLists", spec := "etreeLists", unfollowed := true, recurses := true, apart := false, narrowed := true }
def EtreeListsUptoSaid : Prop := etreeListsUptoRow.holds Try.pinned (OpenSpec.upto etreeListsSpec)

/-- 'sparselaw19.EtreeMade', WHERE WHAT IT READS IS OF BULK AT MOST 1048576: true; the input reads as it did. -/
def etreeMadeUptoRow : OpenClaim := { program := "ytoelidgkfpmgnaa", sum := "46d90d2468e29cb430189f98ed55a2d0557657f8f1ecbdbd34bdfcbe914843c4", func := "sparse/sparselaw19.EtreeMade", spec := "etreeMade", unfollowed := true, recurses := true, apart := false, narrowed := true }
def EtreeMadeUptoSaid : Prop := etreeMadeUptoRow.holds Try.pinned (OpenSpec.upto etreeMadeSpec)

/-- 'sparselaw19.EtreeSubtrees', WHERE WHAT IT READS IS OF BULK AT MOST 1048576: true; the input reads as it did. -/
def etreeSubtreesUptoRow : OpenClaim := { program := "ytoelidgkfpmgnaa", sum := "46d90d2468e29cb430189f98ed55a2d0557657f8f1ecbdbd34bdfcbe914843c4", func := "sparse/sparselaw19.EtreeSubtrees", spec := "etreeSubtrees", unfollowed := true, recurses := true, apart := false, narrowed := true }
def EtreeSubtreesUptoSaid : Prop := etreeSubtreesUptoRow.holds Try.pinned (OpenSpec.upto etreeSubtreesSpec)

/-- 'sparselaw19.EtreeAny', WHERE WHAT IT READS IS OF BULK AT MOST 1048576: true; the input reads as it did. -/
def etreeAnyUptoRow : OpenClaim := { program := "ytoelidgkfpmgnaa", sum := "46d90d2468e29cb430189f98ed55a2d0557657f8f1ecbdbd34bdfcbe914843c4", func := "sparse/sparselaw19.EtreeAny", spec := "etreeAny", unfollowed := true, recurses := true, apart := false, narrowed := true }
def EtreeAnyUptoSaid : Prop := etreeAnyUptoRow.holds Try.pinned (OpenSpec.upto etreeAnySpec)

/-- 'sparselaw19.EtreeComponents', WHERE WHAT IT READS IS OF BULK AT MOST 1048576: true; the input reads as it did. -/
def etreeComponentsUptoRow : OpenClaim := { program := "ytoelidgkfpmgnaa", sum := "46d90d2468e29cb430189f98ed55a2d0557657f8f1ecbdbd34bdfcbe914843c4", func := "sparse/sparselaw19.EtreeComponents", spec := "etreeComponents", unfollowed := true, recurses := true, apart := false, narrowed := true }
def EtreeComponentsUptoSaid : Prop := etreeComponentsUptoRow.holds Try.pinned (OpenSpec.upto etreeComponentsSpec)

/-- 'sparselaw19.EtreePostorder', WHERE WHAT IT READS IS OF BULK AT MOST 1048576: true; the input reads as it did. -/
def etreePostorderUptoRow : OpenClaim := { program := "ytoelidgkfpmgnaa", sum := "46d90d2468e29cb430189f98ed55a2d0557657f8f1ecbdbd34bdfcbe914843c4", func := "sparse/sparselaw19.EtreePostorder", spec := "etreePostorder", unfollowed := true, recurses := true, apart := false, narrowed := true }
def EtreePostorderUptoSaid : Prop := etreePostorderUptoRow.holds Try.pinned (OpenSpec.upto etreePostorderSpec)

end Rows
end Go.Proofs.Ytoelidgkfpmgnaa
