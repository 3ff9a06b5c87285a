/- The law DissectMade returns true for every input, and each input reads as it did. -/
import Derived.Test.YthpeajepbffinaaGreatRows
import Derived.Test.YthpeajepbffinaaGreatSxR
import Derived.Test.YthpeajepbffinaaGreatW6
import Derived.Test.YthpeajepbffinaaGreatPdZ
import Derived.ProofKit
namespace Go.Proofs.YthpeajepbffinaaGreat
open Go.ChangeShapes Go.WideShapes Go.ChangeAt Go.RowKit Sx M

theorem Tryz.ownDissectMade : ownKnob Tryz.prog.godebug = none := by kernel_rfl
theorem Tryz.laidDissectMade : laidOutB Tryz.prog = true := by kernel_rfl

set_option maxRecDepth 100000 in
theorem dissectMade_lifted (os : Os) (started : os.Started) (H : Type) (enc : TypeId × Value → H) :
    ReturnsInHanded {} Tryz.checked os 3 .any (Rows.dissectMadeSpec.pre6 enc Tryz.prog Tryz.f3 Rows.dissectMadeRow.domain false) (Rows.dissectMadeSpec.post enc Tryz.prog Tryz.f3 false true false false) := by
  refine law_lifted (C := Tryz.checked) (tb := 4) Tryz.ownDissectMade Tryz.laidDissectMade started (by kernel_rfl) Tryz.func3 rfl (by kernel_rfl) rfl (by kernel_rfl) ?_
    (ChangeSpec.witness6 (enc := enc) (C := Tryz.checked) false ⟨#[], #[.int .i64 0, .slice none 0 0, .slice none 0 0], []⟩ 8 (by kernel_rfl) (by kernel_rfl) (by kernel_rfl) (by kernel_rfl)) ?_
  · intro ds hl
    match ds, hl with
    | [_, _, _], _ => rfl
  · intro W base args ds p hA0 hval0
    have hval : ∀ (j : Nat) t v, Tryz.f3.params[j]? = some t → args[j]? = some v → Value.okWide Tryz.prog W .any base t v := hval0
    have hA : DataW.TrodAll enc Tryz.prog W 0 (fun _ => true) true Tryz.f3.params.toList args.toList ds p := hA0
    rw [Tryz.params3] at hA hval
    obtain ⟨v0, v1, v2, d0, d1, d2, p0, p1, p2, rfl, rfl, rfl, h0, h1, h2⟩ := trodAll_three hA
    obtain ⟨n0, rfl, _⟩ := arg_int Tryz.underlying3 (hval 0 3 v0 rfl rfl) h0
    obtain ⟨s1, l1, rfl, i1, _⟩ := arg_slice Tryz.underlying22 (rdg_slice Tryz.underlying22 rfl (rdg_int Tryz.underlying3)) (hval 1 22 v1 rfl rfl) h1
    obtain ⟨s2, l2, rfl, i2, _⟩ := arg_slice Tryz.underlying22 (rdg_slice Tryz.underlying22 rfl (rdg_int Tryz.underlying3)) (hval 2 22 v2 rfl rfl) h2
    refine (sparselaw18_DissectMade_ok (ros := [imm (rI .i64) s1.v l1, imm (rI .i64) s2.v l2]) (rs := []) (Pd.dissectMade_true n0 l1 l2) (by simp) (by simp) (topSt ?_)).mono ?_
    · intro q hq
      simp only [List.mem_cons, List.not_mem_nil, or_false] at hq
      rcases hq with rfl | rfl
      · exact i1
      · exact i2
    · rintro e W' ⟨he, hst⟩
      exact ⟨he, _, _, hst⟩

theorem dissectMade_holds : Rows.DissectMadeSaid :=
  OpenClaim.holds_of_wide 3 Tryz.f3 rfl rfl rfl rfl rfl rfl rfl ⟨rfl, rfl, rfl, rfl, rfl⟩ rfl rfl rfl rfl rfl (by kernel_rfl) Tryz.func3 (by kernel_rfl)
    (of_decide_eq_true (by kernel_rfl)) (by unfold Func.isWrapper; rw [if_neg (by decide +kernel)]; exact ⟨rfl, rfl⟩)
    (fun os started H enc _ => dissectMade_lifted os started H enc)
end Go.Proofs.YthpeajepbffinaaGreat
