/- The law ExactSolves returns true for every input, and each input reads as it did. -/
import Derived.Test.YtpfmbaidflhamaaGreatDoorRows
import Derived.Test.YtpfmbaidflhamaaGreatDoorSxN
import Derived.Test.YtpfmbaidflhamaaGreatDoorCards
import Derived.Test.YtpfmbaidflhamaaGreatDoorTie
import Derived.SevenTiedAt
import Derived.Test.YtpfmbaidflhamaaGreatDoorW7
import Derived.Carry
import Derived.Test.YtpfmbaidflhamaaGreatDoorQzC
import Derived.ProofKit
namespace Go.Proofs.YtpfmbaidflhamaaGreatDoor
open Go.ChangeShapes Go.WideShapes Go.ChangeAt Go.WideMaps Go.WideElems Go.RowKit Sx M

theorem Tryz.ownExactSolves : ownKnob Tryz.prog.godebug = none := by kernel_rfl
theorem Tryz.laidExactSolves : laidOutB Tryz.prog = true := by kernel_rfl

theorem door_met (os : Os) (args : Array Value) : laidMetH Tryz.prog [("math/bits.deBruijn32tab", Rows.laid_math_bits_deBruijn32tab), ("math/bits.deBruijn64tab", Rows.laid_math_bits_deBruijn64tab), ("internal/strconv.uint64pow10", Rows.laid_internal_strconv_uint64pow10)] ((World.doorLaid Tryz.prog 400 os).forCall (fun _ _ => 0) ⟨#[], args, []⟩).memory :=
  laidMetH_of_parts3 (fuel := 8) (laidMet_of_run' 8 (by kernel_rfl) (by kernel_rfl)) (by kernel_rfl) (by kernel_rfl)

set_option maxRecDepth 100000 in
theorem exactSolves_lifted (os : Os) (started : os.Started) (H : Type) (enc : TypeId × Value → H) :
    ReturnsInHanded {} Tryz.checked os 4 .any (fun w args => (Rows.exactSolvesSpec.pre enc Tryz.prog Tryz.f4 [] false w args ∧ laidMetH Tryz.prog [("math/bits.deBruijn32tab", Rows.laid_math_bits_deBruijn32tab), ("math/bits.deBruijn64tab", Rows.laid_math_bits_deBruijn64tab), ("internal/strconv.uint64pow10", Rows.laid_internal_strconv_uint64pow10)] w) ∧ sizedMet enc Tryz.prog Tryz.f4 (OpenSpec.ofChange Rows.exactSolvesSpec) false w args) (Rows.exactSolvesSpec.post enc Tryz.prog Tryz.f4 false true false false) := by
  refine law_liftedL (laid := [("math/bits.deBruijn32tab", Rows.laid_math_bits_deBruijn32tab), ("math/bits.deBruijn64tab", Rows.laid_math_bits_deBruijn64tab), ("internal/strconv.uint64pow10", Rows.laid_internal_strconv_uint64pow10)]) (C := Tryz.checked) (tb := 4) Tryz.ownExactSolves Tryz.laidExactSolves started (by kernel_rfl) Tryz.func4 rfl (by kernel_rfl) rfl (by kernel_rfl) ?_
    (ChangeSpec.witness_shaped (enc := enc) (C := Tryz.checked) (os := os) (X := fun w _ => laidMetH Tryz.prog [("math/bits.deBruijn32tab", Rows.laid_math_bits_deBruijn32tab), ("math/bits.deBruijn64tab", Rows.laid_math_bits_deBruijn64tab), ("internal/strconv.uint64pow10", Rows.laid_internal_strconv_uint64pow10)] w) false (World.doorLaid Tryz.prog 400 os) #[.slice none 0 0, .slice none 0 0] 8 rfl (World.shaped_of_RefB (by kernel_rfl) (by kernel_rfl)) (by kernel_rfl) (by kernel_rfl) (by kernel_rfl) (door_met os _)) ?_
  · intro ds hl
    match ds, hl with
    | [_, _], _ => rfl
  · intro W base args ds p hA0 hval0 hL
    have hval : ∀ (j : Nat) t v, Tryz.f4.params[j]? = some t → args[j]? = some v → Value.okWide Tryz.prog W .any base t v := hval0
    have hA : DataW.TrodAll enc Tryz.prog W 0 (fun _ => true) true Tryz.f4.params.toList args.toList ds p := hA0
    rw [Tryz.params4] at hA hval
    obtain ⟨v0, v1, d0, d1, p0, p1, rfl, rfl, rfl, h0, h1⟩ := trodAll_two hA
    obtain ⟨s0, l0, rfl, i0, o0⟩ := arg_slice Tryz.underlying22 (rdg_slice Tryz.underlying22 rfl (rdg_slice Tryz.underlying32 rfl (rdg_two Tryz.underlying31 rfl rfl rfl rfl rfl (rdg_bool Tryz.underlying4) (rdg_slice Tryz.underlying29 rfl (rdg_int Tryz.underlying103))))) (hval 0 22 v0 rfl rfl) h0
    obtain ⟨s1, l1, rfl, i1, o1⟩ := arg_slice Tryz.underlying32 (rdg_slice Tryz.underlying32 rfl (rdg_two Tryz.underlying31 rfl rfl rfl rfl rfl (rdg_bool Tryz.underlying4) (rdg_slice Tryz.underlying29 rfl (rdg_int Tryz.underlying103)))) (hval 1 32 v1 rfl rfl) h1
    refine (sparselaw08_ExactSolves_ok (ros := [imm (rS (rP rB (rS (rI .u32)))) s0.v l0, imm (rP rB (rS (rI .u32))) s1.v l1]) (rs := []) (Km.exactSolves_t l0 l1 o0 o1) rfl (by simp) (by simp) (topSt ?_)).mono ?_
    · intro q hq
      simp only [List.mem_cons, List.not_mem_nil, or_false] at hq
      rcases hq with rfl | rfl
      · exact i0
      · exact i1
    · rintro e W' ⟨he, hst⟩
      exact ⟨he, _, _, hst⟩

theorem exactSolves_holds : Rows.ExactSolvesSaid :=
  OpenClaim.holds_of_wide 4 Tryz.f4 rfl rfl rfl rfl rfl rfl rfl ⟨rfl, rfl, rfl, rfl, rfl⟩ rfl rfl rfl rfl rfl (by kernel_rfl) Tryz.func4 (by kernel_rfl)
    (of_decide_eq_true (by kernel_rfl)) (by unfold Func.isWrapper; rw [if_neg (by decide +kernel)]; exact ⟨rfl, rfl⟩)
    (fun os started H enc _ => exactSolves_lifted os started H enc)

theorem exactSolves_card_holds : Rows.ExactSolvesCardSaid :=
  Claim7.holds_tied_plain_at .later [] [.data, .data, .data] true (true, "ec06430e0bd8435142a00cee3078b97ae3ec83fb1969abe416fb9015ffcdda4f") false
    exactSolves_holds (fun _ h => by cases h) (by kernel_rfl) (fun _ h => by cases h) exactSolves_row_tie rfl ⟨rfl, rfl⟩ (by kernel_rfl) rfl
    (fun f fn hf hfn => by
      obtain rfl : f = 4 := Option.some.inj ((show Tryz.prog.funcNamed "sparse/sparselaw08.ExactSolves" = some 4 by kernel_rfl).symm.trans hf) |>.symm
      obtain rfl : fn = Tryz.f4 := (Option.some.inj (Tryz.func4.symm.trans hfn)).symm
      exact ⟨by kernel_rfl, fun j t ht => by
        rw [Tryz.params4] at ht
        have hm : t ∈ [22, 32] := by simpa using Array.mem_of_getElem? ht
        have hall : ([22, 32].all fun u => !Tryz.prog.wantsStandIn u) = true := by kernel_rfl
        exact (show Tryz.prog.wantsStandIn t = false by simpa using List.all_eq_true.1 hall t hm)⟩)
    (by kernel_rfl)
end Go.Proofs.YtpfmbaidflhamaaGreatDoor
