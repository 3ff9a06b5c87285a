/- The law ExactSigns returns true for every input, and each input reads as it did. -/
import Derived.Test.YtpfmbaidflhamaaDoorRows
import Derived.Test.YtpfmbaidflhamaaDoorSxN
import Derived.Test.YtpfmbaidflhamaaDoorCards
import Derived.Test.YtpfmbaidflhamaaDoorTie
import Derived.SevenTiedAt
import Derived.Test.YtpfmbaidflhamaaDoorW4
import Derived.Carry
import Derived.Test.YtpfmbaidflhamaaDoorQzC
import Derived.ProofKit
namespace Go.Proofs.YtpfmbaidflhamaaDoor
open Go.ChangeShapes Go.WideShapes Go.ChangeAt Go.WideMaps Go.WideElems Go.RowKit Sx M

theorem Tryd.ownExactSigns : ownKnob Tryd.prog.godebug = none := by kernel_rfl
theorem Tryd.laidExactSigns : laidOutB Tryd.prog = true := by kernel_rfl

theorem door_met (os : Os) (args : Array Value) : laidMetH Tryd.prog [("math/bits.deBruijn32tab", Rows.laid_math_bits_deBruijn32tab), ("math/bits.deBruijn64tab", Rows.laid_math_bits_deBruijn64tab), ("internal/strconv.uint64pow10", Rows.laid_internal_strconv_uint64pow10)] ((World.doorLaid Tryd.prog 400 os).forCall (fun _ _ => 0) ⟨#[], args, []⟩).memory :=
  laidMetH_of_parts3 (fuel := 8) (laidMet_of_run' 8 (by kernel_rfl) (by kernel_rfl)) (by kernel_rfl) (by kernel_rfl)

set_option maxRecDepth 100000 in
theorem exactSigns_lifted (os : Os) (started : os.Started) (H : Type) (enc : TypeId × Value → H) :
    ReturnsInHanded {} Tryd.checked os 5 .any (fun w args => (Rows.exactSignsSpec.pre enc Tryd.prog Tryd.f5 [] false w args ∧ laidMetH Tryd.prog [("math/bits.deBruijn32tab", Rows.laid_math_bits_deBruijn32tab), ("math/bits.deBruijn64tab", Rows.laid_math_bits_deBruijn64tab), ("internal/strconv.uint64pow10", Rows.laid_internal_strconv_uint64pow10)] w) ∧ sizedMet enc Tryd.prog Tryd.f5 (OpenSpec.ofChange Rows.exactSignsSpec) false w args) (Rows.exactSignsSpec.post enc Tryd.prog Tryd.f5 false true false false) := by
  refine law_liftedL (laid := [("math/bits.deBruijn32tab", Rows.laid_math_bits_deBruijn32tab), ("math/bits.deBruijn64tab", Rows.laid_math_bits_deBruijn64tab), ("internal/strconv.uint64pow10", Rows.laid_internal_strconv_uint64pow10)]) (C := Tryd.checked) (tb := 4) Tryd.ownExactSigns Tryd.laidExactSigns started (by kernel_rfl) Tryd.func5 rfl (by kernel_rfl) rfl (by kernel_rfl) ?_
    (ChangeSpec.witness_shaped (enc := enc) (C := Tryd.checked) (os := os) (X := fun w _ => laidMetH Tryd.prog [("math/bits.deBruijn32tab", Rows.laid_math_bits_deBruijn32tab), ("math/bits.deBruijn64tab", Rows.laid_math_bits_deBruijn64tab), ("internal/strconv.uint64pow10", Rows.laid_internal_strconv_uint64pow10)] w) false (World.doorLaid Tryd.prog 400 os) #[.slice none 0 0, .int .i64 0] 8 rfl (World.shaped_of_RefB (by kernel_rfl) (by kernel_rfl)) (by kernel_rfl) (by kernel_rfl) (by kernel_rfl) (door_met os _)) ?_
  · intro ds hl
    match ds, hl with
    | [_, _], _ => rfl
  · intro W base args ds p hA0 hval0 hL
    have hval : ∀ (j : Nat) t v, Tryd.f5.params[j]? = some t → args[j]? = some v → Value.okWide Tryd.prog W .any base t v := hval0
    have hA : DataW.TrodAll enc Tryd.prog W 0 (fun _ => true) true Tryd.f5.params.toList args.toList ds p := hA0
    rw [Tryd.params5] at hA hval
    obtain ⟨v0, v1, d0, d1, p0, p1, rfl, rfl, rfl, h0, h1⟩ := trodAll_two hA
    obtain ⟨s0, l0, rfl, i0, o0⟩ := arg_slice Tryd.underlying22 (rdg_slice Tryd.underlying22 rfl (rdg_int Tryd.underlying3)) (hval 0 22 v0 rfl rfl) h0
    obtain ⟨n1, rfl, k1⟩ := arg_int Tryd.underlying3 (hval 1 3 v1 rfl rfl) h1
    refine (sparselaw08_ExactSigns_ok (ros := [imm (rI .i64) s0.v l0]) (rs := []) (Km.exactSigns_t l0 n1 o0 k1) rfl (by simp) (topSt ?_)).mono ?_
    · intro q hq
      simp only [List.mem_cons, List.not_mem_nil, or_false] at hq
      subst hq; exact i0
    · rintro e W' ⟨he, hst⟩
      exact ⟨he, _, _, hst⟩

theorem exactSigns_holds : Rows.ExactSignsSaid :=
  OpenClaim.holds_of_wide 5 Tryd.f5 rfl rfl rfl rfl rfl rfl rfl ⟨rfl, rfl, rfl, rfl, rfl⟩ rfl rfl rfl rfl rfl (by kernel_rfl) Tryd.func5 (by kernel_rfl)
    (of_decide_eq_true (by kernel_rfl)) (by unfold Func.isWrapper; rw [if_neg (by decide +kernel)]; exact ⟨rfl, rfl⟩)
    (fun os started H enc _ => exactSigns_lifted os started H enc)

theorem exactSigns_card_holds : Rows.ExactSignsCardSaid :=
  Claim7.holds_tied_plain_at .later [] [.data, .data, .data] true (true, "3fc5e55b26faa2f6f228dd0ddda60ecc60ea7b0e5f9a40af4289629da7aa5c0d") false
    exactSigns_holds (fun _ h => by cases h) (by kernel_rfl) (fun _ h => by cases h) exactSigns_row_tie rfl ⟨rfl, rfl⟩ (by kernel_rfl) rfl
    (fun f fn hf hfn => by
      obtain rfl : f = 5 := Option.some.inj ((show Tryd.prog.funcNamed "sparse/sparselaw08.ExactSigns" = some 5 by kernel_rfl).symm.trans hf) |>.symm
      obtain rfl : fn = Tryd.f5 := (Option.some.inj (Tryd.func5.symm.trans hfn)).symm
      exact ⟨by kernel_rfl, fun j t ht => by
        rw [Tryd.params5] at ht
        have hm : t ∈ [22, 3] := by simpa using Array.mem_of_getElem? ht
        have hall : ([22, 3].all fun u => !Tryd.prog.wantsStandIn u) = true := by kernel_rfl
        exact (show Tryd.prog.wantsStandIn t = false by simpa using List.all_eq_true.1 hall t hm)⟩)
    (by kernel_rfl)
end Go.Proofs.YtpfmbaidflhamaaDoor
