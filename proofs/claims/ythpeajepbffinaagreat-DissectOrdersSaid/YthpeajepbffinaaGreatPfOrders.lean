/- The law DissectOrders returns true for every input, and each input reads as it did. -/
import Derived.Test.YthpeajepbffinaaGreatRows
import Derived.Test.YthpeajepbffinaaGreatSxR
import Derived.Test.YthpeajepbffinaaGreatW8
import Derived.Test.YthpeajepbffinaaGreatPhZ
import Derived.ProofKit
namespace Go.Proofs.YthpeajepbffinaaGreat
open Go.ChangeShapes Go.WideShapes Go.ChangeAt Go.RowKit Sx M

theorem Tryz.ownDissectOrders : ownKnob Tryz.prog.godebug = none := by kernel_rfl
theorem Tryz.laidDissectOrders : laidOutB Tryz.prog = true := by kernel_rfl

set_option maxRecDepth 100000 in
theorem dissectOrders_lifted (os : Os) (started : os.Started) (H : Type) (enc : TypeId × Value → H) :
    ReturnsInHanded {} Tryz.checked os 6 .any (Rows.dissectOrdersSpec.pre6 enc Tryz.prog Tryz.f6 Rows.dissectOrdersRow.domain false) (Rows.dissectOrdersSpec.post enc Tryz.prog Tryz.f6 false true false false) := by
  refine law_lifted (C := Tryz.checked) (tb := 4) Tryz.ownDissectOrders Tryz.laidDissectOrders started (by kernel_rfl) Tryz.func6 rfl (by kernel_rfl) rfl (by kernel_rfl) ?_
    (ChangeSpec.witness6 (enc := enc) (C := Tryz.checked) false ⟨#[], #[.int .i64 0, .slice none 0 0, .int .i64 0], []⟩ 8 (by kernel_rfl) (by kernel_rfl) (by kernel_rfl) (by kernel_rfl)) ?_
  · intro ds hl
    match ds, hl with
    | [_, _, _], _ => rfl
  · intro W base args ds p hA0 hval0
    have hval : ∀ (j : Nat) t v, Tryz.f6.params[j]? = some t → args[j]? = some v → Value.okWide Tryz.prog W .any base t v := hval0
    have hA : DataW.TrodAll enc Tryz.prog W 0 (fun _ => true) true Tryz.f6.params.toList args.toList ds p := hA0
    rw [Tryz.params6] at hA hval
    obtain ⟨v0, v1, v2, d0, d1, d2, p0, p1, p2, rfl, rfl, rfl, h0, h1, h2⟩ := trodAll_three hA
    obtain ⟨n0, rfl, _⟩ := arg_int Tryz.underlying3 (hval 0 3 v0 rfl rfl) h0
    obtain ⟨s1, l1, rfl, i1, _⟩ := arg_slice Tryz.underlying22 (rdg_slice Tryz.underlying22 rfl (rdg_int Tryz.underlying3)) (hval 1 22 v1 rfl rfl) h1
    obtain ⟨n2, rfl, _⟩ := arg_int Tryz.underlying3 (hval 2 3 v2 rfl rfl) h2
    refine (sparselaw18_DissectOrders_ok (ros := [imm (rI .i64) s1.v l1]) (rs := []) (Km.dissectOrders_true n0 l1 n2) rfl (by simp) (topSt ?_)).mono ?_
    · intro q hq
      simp only [List.mem_cons, List.not_mem_nil, or_false] at hq
      subst hq; exact i1
    · rintro e W' ⟨he, hst⟩
      exact ⟨he, _, _, hst⟩

theorem dissectOrders_holds : Rows.DissectOrdersSaid :=
  OpenClaim.holds_of_wide 6 Tryz.f6 rfl rfl rfl rfl rfl rfl rfl ⟨rfl, rfl, rfl, rfl, rfl⟩ rfl rfl rfl rfl rfl (by kernel_rfl) Tryz.func6 (by kernel_rfl)
    (of_decide_eq_true (by kernel_rfl)) (by unfold Func.isWrapper; rw [if_neg (by decide +kernel)]; exact ⟨rfl, rfl⟩)
    (fun os started H enc _ => dissectOrders_lifted os started H enc)
end Go.Proofs.YthpeajepbffinaaGreat
