/- The law EtreePostorder returns true for every input, and each input reads as it did. -/
import Derived.Test.YtoelidgkfpmgnaaRows
import Derived.Test.YtoelidgkfpmgnaaSxR
import Derived.Test.YtoelidgkfpmgnaaW6
import Derived.Test.YtoelidgkfpmgnaaPvE
import Derived.ProofKit
namespace Go.Proofs.Ytoelidgkfpmgnaa
open Go.ChangeShapes Go.WideShapes Go.ChangeAt Go.RowKit Sx M

theorem Try.ownEtreePostorder : ownKnob Try.prog.godebug = none := by kernel_rfl
theorem Try.laidEtreePostorder : laidOutB Try.prog = true := by kernel_rfl

set_option maxRecDepth 100000 in
theorem etreePostorder_lifted (os : Os) (started : os.Started) (H : Type) (enc : TypeId × Value → H) :
    ReturnsInHanded {} Try.checked os 9 .any (Rows.etreePostorderSpec.pre6 enc Try.prog Try.f9 Rows.etreePostorderRow.domain false) (Rows.etreePostorderSpec.post enc Try.prog Try.f9 false true false false) := by
  refine law_lifted (C := Try.checked) (tb := 4) Try.ownEtreePostorder Try.laidEtreePostorder started (by kernel_rfl) Try.func9 rfl (by kernel_rfl) rfl (by kernel_rfl) ?_
    (ChangeSpec.witness6 (enc := enc) (C := Try.checked) false ⟨#[], #[.int .i64 0, .slice none 0 0], []⟩ 8 (by kernel_rfl) (by kernel_rfl) (by kernel_rfl) (by kernel_rfl)) ?_
  · intro ds hl
    match ds, hl with
    | [_, _], _ => rfl
  · intro W base args ds p hA0 hval0
    have hval : ∀ (j : Nat) t v, Try.f9.params[j]? = some t → args[j]? = some v → Value.okWide Try.prog W .any base t v := hval0
    have hA : DataW.TrodAll enc Try.prog W 0 (fun _ => true) true Try.f9.params.toList args.toList ds p := hA0
    rw [Try.params9] at hA hval
    obtain ⟨v0, v1, d0, d1, p0, p1, rfl, rfl, rfl, h0, h1⟩ := trodAll_two hA
    obtain ⟨n0, rfl, _⟩ := arg_int Try.underlying3 (hval 0 3 v0 rfl rfl) h0
    obtain ⟨s1, l1, rfl, i1, _⟩ := arg_slice Try.underlying22 (rdg_slice Try.underlying22 rfl (rdg_int Try.underlying3)) (hval 1 22 v1 rfl rfl) h1
    refine (sparselaw19_EtreePostorder_ok (ros := [imm (rI .i64) s1.v l1]) (rs := []) (Pv.etreePostorder_true n0 l1) (by simp) (topSt ?_)).mono ?_
    · intro q hq
      simp only [List.mem_cons, List.not_mem_nil, or_false] at hq
      subst hq; exact i1
    · rintro e W' ⟨he, hst⟩
      exact ⟨he, _, _, hst⟩

theorem etreePostorder_holds : Rows.EtreePostorderSaid :=
  OpenClaim.holds_of_wide 9 Try.f9 rfl rfl rfl rfl rfl rfl rfl ⟨rfl, rfl, rfl, rfl, rfl⟩ rfl rfl rfl rfl rfl (by kernel_rfl) Try.func9 (by kernel_rfl)
    (of_decide_eq_true (by kernel_rfl)) (by unfold Func.isWrapper; rw [if_neg (by decide +kernel)]; exact ⟨rfl, rfl⟩)
    (fun os started H enc _ => etreePostorder_lifted os started H enc)
end Go.Proofs.Ytoelidgkfpmgnaa
