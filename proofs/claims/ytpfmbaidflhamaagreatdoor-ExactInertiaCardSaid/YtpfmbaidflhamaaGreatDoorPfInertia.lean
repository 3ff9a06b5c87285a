/- The law ExactInertia returns true for every input, and each input reads as it did. -/
import Derived.Test.YtpfmbaidflhamaaGreatDoorRows
import Derived.Test.YtpfmbaidflhamaaGreatDoorSxN
import Derived.Test.YtpfmbaidflhamaaGreatDoorCards
import Derived.Test.YtpfmbaidflhamaaGreatDoorTie
import Derived.SevenTiedAt
import Derived.Test.YtpfmbaidflhamaaGreatDoorW6
import Derived.Carry
import Derived.Test.YtpfmbaidflhamaaGreatDoorQzC
import Derived.ProofKit
namespace Go.Proofs.YtpfmbaidflhamaaGreatDoor
open Go.ChangeShapes Go.WideShapes Go.ChangeAt Go.WideMaps Go.WideElems Go.RowKit Sx M

theorem Tryz.ownExactInertia : ownKnob Tryz.prog.godebug = none := by kernel_rfl
theorem Tryz.laidExactInertia : laidOutB Tryz.prog = true := by kernel_rfl

theorem door_met (os : Os) (args : Array Value) : laidMetH Tryz.prog [("math/bits.deBruijn32tab", Rows.laid_math_bits_deBruijn32tab), ("math/bits.deBruijn64tab", Rows.laid_math_bits_deBruijn64tab), ("internal/strconv.uint64pow10", Rows.laid_internal_strconv_uint64pow10)] ((World.doorLaid Tryz.prog 400 os).forCall (fun _ _ => 0) ⟨#[], args, []⟩).memory :=
  laidMetH_of_parts3 (fuel := 8) (laidMet_of_run' 8 (by kernel_rfl) (by kernel_rfl)) (by kernel_rfl) (by kernel_rfl)

set_option maxRecDepth 100000 in
theorem exactInertia_lifted (os : Os) (started : os.Started) (H : Type) (enc : TypeId × Value → H) :
    ReturnsInHanded {} Tryz.checked os 3 .any (fun w args => (Rows.exactInertiaSpec.pre enc Tryz.prog Tryz.f3 [] false w args ∧ laidMetH Tryz.prog [("math/bits.deBruijn32tab", Rows.laid_math_bits_deBruijn32tab), ("math/bits.deBruijn64tab", Rows.laid_math_bits_deBruijn64tab), ("internal/strconv.uint64pow10", Rows.laid_internal_strconv_uint64pow10)] w) ∧ sizedMet enc Tryz.prog Tryz.f3 (OpenSpec.ofChange Rows.exactInertiaSpec) false w args) (Rows.exactInertiaSpec.post enc Tryz.prog Tryz.f3 false true false false) := by
  refine law_liftedL (laid := [("math/bits.deBruijn32tab", Rows.laid_math_bits_deBruijn32tab), ("math/bits.deBruijn64tab", Rows.laid_math_bits_deBruijn64tab), ("internal/strconv.uint64pow10", Rows.laid_internal_strconv_uint64pow10)]) (C := Tryz.checked) (tb := 4) Tryz.ownExactInertia Tryz.laidExactInertia started (by kernel_rfl) Tryz.func3 rfl (by kernel_rfl) rfl (by kernel_rfl) ?_
    (ChangeSpec.witness_shaped (enc := enc) (C := Tryz.checked) (os := os) (X := fun w _ => laidMetH Tryz.prog [("math/bits.deBruijn32tab", Rows.laid_math_bits_deBruijn32tab), ("math/bits.deBruijn64tab", Rows.laid_math_bits_deBruijn64tab), ("internal/strconv.uint64pow10", Rows.laid_internal_strconv_uint64pow10)] w) false (World.doorLaid Tryz.prog 400 os) #[.slice none 0 0, .bool false] 8 rfl (World.shaped_of_RefB (by kernel_rfl) (by kernel_rfl)) (by kernel_rfl) (by kernel_rfl) (by kernel_rfl) (door_met os _)) ?_
  · intro ds hl
    match ds, hl with
    | [_, _], _ => rfl
  · intro W base args ds p hA0 hval0 hL
    have hval : ∀ (j : Nat) t v, Tryz.f3.params[j]? = some t → args[j]? = some v → Value.okWide Tryz.prog W .any base t v := hval0
    have hA : DataW.TrodAll enc Tryz.prog W 0 (fun _ => true) true Tryz.f3.params.toList args.toList ds p := hA0
    rw [Tryz.params3] at hA hval
    obtain ⟨v0, v1, d0, d1, p0, p1, rfl, rfl, rfl, h0, h1⟩ := trodAll_two hA
    obtain ⟨s0, l0, rfl, i0, o0⟩ := arg_slice Tryz.underlying22 (rdg_slice Tryz.underlying22 rfl (rdg_slice Tryz.underlying32 rfl (rdg_two Tryz.underlying31 rfl rfl rfl rfl rfl (rdg_bool Tryz.underlying4) (rdg_slice Tryz.underlying29 rfl (rdg_int Tryz.underlying103))))) (hval 0 22 v0 rfl rfl) h0
    obtain ⟨n1, rfl, _, _⟩ := Go.RowKit.open_bool Tryz.underlying4 (hval 1 4 v1 rfl rfl) h1
    refine (sparselaw08_ExactInertia_ok (ros := [imm (rS (rP rB (rS (rI .u32)))) s0.v l0]) (rs := []) (Km.exactInertia_t l0 n1 o0) rfl (by simp) (topSt ?_)).mono ?_
    · intro q hq
      simp only [List.mem_cons, List.not_mem_nil, or_false] at hq
      subst hq; exact i0
    · rintro e W' ⟨he, hst⟩
      exact ⟨he, _, _, hst⟩

theorem exactInertia_holds : Rows.ExactInertiaSaid :=
  OpenClaim.holds_of_wide 3 Tryz.f3 rfl rfl rfl rfl rfl rfl rfl ⟨rfl, rfl, rfl, rfl, rfl⟩ rfl rfl rfl rfl rfl (by kernel_rfl) Tryz.func3 (by kernel_rfl)
    (of_decide_eq_true (by kernel_rfl)) (by unfold Func.isWrapper; rw [if_neg (by decide +kernel)]; exact ⟨rfl, rfl⟩)
    (fun os started H enc _ => exactInertia_lifted os started H enc)

theorem exactInertia_card_holds : Rows.ExactInertiaCardSaid :=
  Claim7.holds_tied_plain_at .later [] [.data, .data, .data] true (true, "ec06430e0bd8435142a00cee3078b97ae3ec83fb1969abe416fb9015ffcdda4f") false
    exactInertia_holds (fun _ h => by cases h) (by kernel_rfl) (fun _ h => by cases h) exactInertia_row_tie rfl ⟨rfl, rfl⟩ (by kernel_rfl) rfl
    (fun f fn hf hfn => by
      obtain rfl : f = 3 := Option.some.inj ((show Tryz.prog.funcNamed "sparse/sparselaw08.ExactInertia" = some 3 by kernel_rfl).symm.trans hf) |>.symm
      obtain rfl : fn = Tryz.f3 := (Option.some.inj (Tryz.func3.symm.trans hfn)).symm
      exact ⟨by kernel_rfl, fun j t ht => by
        rw [Tryz.params3] at ht
        have hm : t ∈ [22, 4] := by simpa using Array.mem_of_getElem? ht
        have hall : ([22, 4].all fun u => !Tryz.prog.wantsStandIn u) = true := by kernel_rfl
        exact (show Tryz.prog.wantsStandIn t = false by simpa using List.all_eq_true.1 hall t hm)⟩)
    (by kernel_rfl)
end Go.Proofs.YtpfmbaidflhamaaGreatDoor
