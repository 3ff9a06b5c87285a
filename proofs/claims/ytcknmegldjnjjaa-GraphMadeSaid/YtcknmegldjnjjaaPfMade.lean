/- The law GraphMade returns true for every input, and each input reads as it did. -/
import Derived.Test.YtcknmegldjnjjaaRows
import Derived.Test.YtcknmegldjnjjaaSxR
import Derived.Test.YtcknmegldjnjjaaW5
import Derived.Test.YtcknmegldjnjjaaPtF
import Derived.ProofKit
namespace Go.Proofs.Ytcknmegldjnjjaa
open Go.ChangeShapes Go.WideShapes Go.ChangeAt Go.RowKit Sx M

theorem Try.ownGraphMade : ownKnob Try.prog.godebug = none := by kernel_rfl
theorem Try.laidGraphMade : laidOutB Try.prog = true := by kernel_rfl

set_option maxRecDepth 100000 in
theorem graphMade_lifted (os : Os) (started : os.Started) (H : Type) (enc : TypeId × Value → H) :
    ReturnsInHanded {} Try.checked os 6 .any (Rows.graphMadeSpec.pre6 enc Try.prog Try.f6 Rows.graphMadeRow.domain false) (Rows.graphMadeSpec.post enc Try.prog Try.f6 false true false false) := by
  refine law_lifted (C := Try.checked) (tb := 4) Try.ownGraphMade Try.laidGraphMade started (by kernel_rfl) Try.func6 rfl (by kernel_rfl) rfl (by kernel_rfl) ?_
    (ChangeSpec.witness6 (enc := enc) (C := Try.checked) false ⟨#[], #[.int .i64 0, .slice none 0 0, .int .i64 0, .slice none 0 0], []⟩ 8 (by kernel_rfl) (by kernel_rfl) (by kernel_rfl) (by kernel_rfl)) ?_
  · intro ds hl
    match ds, hl with
    | [_, _, _, _], _ => rfl
  · intro W base args ds p hA0 hval0
    have hval : ∀ (j : Nat) t v, Try.f6.params[j]? = some t → args[j]? = some v → Value.okWide Try.prog W .any base t v := hval0
    have hA : DataW.TrodAll enc Try.prog W 0 (fun _ => true) true Try.f6.params.toList args.toList ds p := hA0
    rw [Try.params6] at hA hval
    obtain ⟨v0, v1, v2, v3, d0, d1, d2, d3, p0, p1, p2, p3, rfl, rfl, rfl, h0, h1, h2, h3⟩ := trodAll_four hA
    obtain ⟨n0, rfl, _⟩ := arg_int Try.underlying3 (hval 0 3 v0 rfl rfl) h0
    obtain ⟨s1, l1, rfl, i1, _⟩ := arg_slice Try.underlying22 (rdg_slice Try.underlying22 rfl (rdg_int Try.underlying3)) (hval 1 22 v1 rfl rfl) h1
    obtain ⟨n2, rfl, _⟩ := arg_int Try.underlying3 (hval 2 3 v2 rfl rfl) h2
    obtain ⟨s3, l3, rfl, i3, _⟩ := arg_slice Try.underlying22 (rdg_slice Try.underlying22 rfl (rdg_int Try.underlying3)) (hval 3 22 v3 rfl rfl) h3
    refine (sparselaw12_GraphMade_ok (ros := [imm (rI .i64) s1.v l1, imm (rI .i64) s3.v l3]) (rs := []) (Pl.graphMade_true n0 l1 n2 l3) (by simp) (by simp) (topSt ?_)).mono ?_
    · intro q hq
      simp only [List.mem_cons, List.not_mem_nil, or_false] at hq
      rcases hq with rfl | rfl
      · exact i1
      · exact i3
    · rintro e W' ⟨he, hst⟩
      exact ⟨he, _, _, hst⟩

theorem graphMade_holds : Rows.GraphMadeSaid :=
  OpenClaim.holds_of_wide 6 Try.f6 rfl rfl rfl rfl rfl rfl rfl ⟨rfl, rfl, rfl, rfl, rfl⟩ rfl rfl rfl rfl rfl (by kernel_rfl) Try.func6 (by kernel_rfl)
    (of_decide_eq_true (by kernel_rfl)) (by unfold Func.isWrapper; rw [if_neg (by decide +kernel)]; exact ⟨rfl, rfl⟩)
    (fun os started H enc _ => graphMade_lifted os started H enc)
end Go.Proofs.Ytcknmegldjnjjaa
