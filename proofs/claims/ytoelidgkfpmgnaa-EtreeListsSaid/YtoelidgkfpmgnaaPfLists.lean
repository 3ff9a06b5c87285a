/- The law EtreeLists returns true for every input, and the input reads as it did. -/
import Derived.Test.YtoelidgkfpmgnaaRows
import Derived.Test.YtoelidgkfpmgnaaSxR
import Derived.Test.YtoelidgkfpmgnaaW3
import Derived.Test.YtoelidgkfpmgnaaPlG
import Derived.ProofKit
namespace Go.Proofs.Ytoelidgkfpmgnaa
open Go.ChangeShapes Go.WideShapes Go.ChangeAt Go.RowKit Sx M

theorem Try.ownL : ownKnob Try.prog.godebug = none := by kernel_rfl
theorem Try.laidL : laidOutB Try.prog = true := by kernel_rfl

set_option maxRecDepth 100000 in
theorem etreeLists_lifted (os : Os) (started : os.Started) (H : Type) (enc : TypeId × Value → H) :
    ReturnsInHanded {} Try.checked os 4 .any (Rows.etreeListsSpec.pre6 enc Try.prog Try.f4 Rows.etreeListsRow.domain false) (Rows.etreeListsSpec.post enc Try.prog Try.f4 false true false false) := by
  refine law_lifted (C := Try.checked) (tb := 4) Try.ownL Try.laidL started (by kernel_rfl) Try.func4 rfl (by kernel_rfl) rfl (by kernel_rfl) ?_
    (ChangeSpec.witness6 (enc := enc) (C := Try.checked) false ⟨#[], #[.slice none 0 0], []⟩ 8 (by kernel_rfl) (by kernel_rfl) (by kernel_rfl) (by kernel_rfl)) ?_
  · intro ds hl
    match ds, hl with
    | [d], _ => rfl
  · intro W base args ds p hA0 hval0
    have hval : ∀ (j : Nat) t v, Try.f4.params[j]? = some t → args[j]? = some v → Value.okWide Try.prog W .any base t v := hval0
    have hA : DataW.TrodAll enc Try.prog W 0 (fun _ => true) true Try.f4.params.toList args.toList ds p := hA0
    rw [Try.params4] at hA hval
    obtain ⟨v0, d0, rfl, rfl, h0⟩ := trodAll_one hA
    obtain ⟨h, l, rfl, hi, _⟩ := arg_slice Try.underlying22 (rdg_slice Try.underlying22 rfl (rdg_int Try.underlying3)) (hval 0 22 v0 rfl rfl) h0
    refine (sparselaw19_EtreeLists_ok (ros := [imm (rI .i64) h.v l]) (rs := []) (Pl.etreeLists_true l) (by simp) (topSt ?_)).mono ?_
    · intro q hq
      simp at hq; subst hq; exact hi
    · rintro e W' ⟨he, hst⟩
      exact ⟨he, _, _, hst⟩

theorem etreeLists_holds : Rows.EtreeListsSaid :=
  OpenClaim.holds_of_wide 4 Try.f4 rfl rfl rfl rfl rfl rfl rfl ⟨rfl, rfl, rfl, rfl, rfl⟩ rfl rfl rfl rfl rfl (by kernel_rfl) Try.func4 (by kernel_rfl)
    (of_decide_eq_true (by kernel_rfl)) (by unfold Func.isWrapper; rw [if_neg (by decide +kernel)]; exact ⟨rfl, rfl⟩)
    (fun os started H enc _ => etreeLists_lifted os started H enc)
end Go.Proofs.Ytoelidgkfpmgnaa
