/- The law DissectSmallest returns true for every input, and each input reads as it did. -/
import Derived.Test.YthpeajepbffinaaRows
import Derived.Test.YthpeajepbffinaaSxR
import Derived.Test.YthpeajepbffinaaW4
import Derived.Test.YthpeajepbffinaaPeZ
import Derived.ProofKit
namespace Go.Proofs.Ythpeajepbffinaa
open Go.ChangeShapes Go.WideShapes Go.ChangeAt Go.RowKit Sx M

theorem Try.ownDissectSmallest : ownKnob Try.prog.godebug = none := by kernel_rfl
theorem Try.laidDissectSmallest : laidOutB Try.prog = true := by kernel_rfl

set_option maxRecDepth 100000 in
theorem dissectSmallest_lifted (os : Os) (started : os.Started) (H : Type) (enc : TypeId × Value → H) :
    ReturnsInHanded {} Try.checked os 4 .any (Rows.dissectSmallestSpec.pre6 enc Try.prog Try.f4 Rows.dissectSmallestRow.domain false) (Rows.dissectSmallestSpec.post enc Try.prog Try.f4 false true false false) := by
  refine law_lifted (C := Try.checked) (tb := 4) Try.ownDissectSmallest Try.laidDissectSmallest started (by kernel_rfl) Try.func4 rfl (by kernel_rfl) rfl (by kernel_rfl) ?_
    (ChangeSpec.witness6 (enc := enc) (C := Try.checked) false ⟨#[], #[.int .i64 0, .slice none 0 0], []⟩ 8 (by kernel_rfl) (by kernel_rfl) (by kernel_rfl) (by kernel_rfl)) ?_
  · intro ds hl
    match ds, hl with
    | [_, _], _ => rfl
  · intro W base args ds p hA0 hval0
    have hval : ∀ (j : Nat) t v, Try.f4.params[j]? = some t → args[j]? = some v → Value.okWide Try.prog W .any base t v := hval0
    have hA : DataW.TrodAll enc Try.prog W 0 (fun _ => true) true Try.f4.params.toList args.toList ds p := hA0
    rw [Try.params4] at hA hval
    obtain ⟨v0, v1, d0, d1, p0, p1, rfl, rfl, rfl, h0, h1⟩ := trodAll_two hA
    obtain ⟨n0, rfl, _⟩ := arg_int Try.underlying3 (hval 0 3 v0 rfl rfl) h0
    obtain ⟨s1, l1, rfl, i1, _⟩ := arg_slice Try.underlying22 (rdg_slice Try.underlying22 rfl (rdg_int Try.underlying3)) (hval 1 22 v1 rfl rfl) h1
    refine (sparselaw18_DissectSmallest_ok (ros := [imm (rI .i64) s1.v l1]) (rs := []) (Km.dissectSmallest_true n0 l1) rfl (by simp) (topSt ?_)).mono ?_
    · intro q hq
      simp only [List.mem_cons, List.not_mem_nil, or_false] at hq
      subst hq; exact i1
    · rintro e W' ⟨he, hst⟩
      exact ⟨he, _, _, hst⟩

theorem dissectSmallest_holds : Rows.DissectSmallestSaid :=
  OpenClaim.holds_of_wide 4 Try.f4 rfl rfl rfl rfl rfl rfl rfl ⟨rfl, rfl, rfl, rfl, rfl⟩ rfl rfl rfl rfl rfl (by kernel_rfl) Try.func4 (by kernel_rfl)
    (of_decide_eq_true (by kernel_rfl)) (by unfold Func.isWrapper; rw [if_neg (by decide +kernel)]; exact ⟨rfl, rfl⟩)
    (fun os started H enc _ => dissectSmallest_lifted os started H enc)
end Go.Proofs.Ythpeajepbffinaa
