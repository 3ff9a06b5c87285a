/- The law BlocksMade returns true for every input, and each input reads as it did. -/
import Derived.Test.YtgnfkbaghjmgiaaGreatDoorRows
import Derived.Test.YtgnfkbaghjmgiaaGreatDoorSxQ
import Derived.Test.YtgnfkbaghjmgiaaGreatDoorCards
import Derived.Test.YtgnfkbaghjmgiaaGreatDoorTie
import Derived.SevenTiedAt
import Derived.Test.YtgnfkbaghjmgiaaGreatDoorW7
import Derived.Test.YtgnfkbaghjmgiaaGreatDoorPyC
import Derived.ProofKit
namespace Go.Proofs.YtgnfkbaghjmgiaaGreatDoor
open Go.ChangeShapes Go.WideShapes Go.ChangeAt Go.WideMaps Go.WideElems Go.RowKit Sx M

theorem Tryz.ownBlocksMade : ownKnob Tryz.prog.godebug = none := by kernel_rfl
theorem Tryz.laidBlocksMade : laidOutB Tryz.prog = true := by kernel_rfl

theorem gTab : Tryz.prog.globalNamed "math/bits.deBruijn32tab" = some 0 := by kernel_rfl
theorem tTab : (Tryz.prog.globals[0]?).map (·.type) = some 172 := by kernel_rfl
theorem laid_eq : (Rows.laid_math_bits_deBruijn32tab : DataW Unit) = .agg (Go.Lib.deBruijn32tab.map fun (k : Nat) => .lit (.int .u8 (k : Int))) := by kernel_rfl
theorem door_met (os : Os) (args : Array Value) : laidMetH Tryz.prog [("math/bits.deBruijn32tab", Rows.laid_math_bits_deBruijn32tab)] ((World.doorLaid Tryz.prog 400 os).forCall (fun _ _ => 0) ⟨#[], args, []⟩).memory :=
  laidMetH_of_parts3 (fuel := 8) (laidMet_of_run' 8 (by kernel_rfl) (by kernel_rfl)) (by kernel_rfl) (by kernel_rfl)

set_option maxRecDepth 100000 in
theorem blocksMade_lifted (os : Os) (started : os.Started) (H : Type) (enc : TypeId × Value → H) :
    ReturnsInHanded {} Tryz.checked os 3 .any (fun w args => (Rows.blocksMadeSpec.pre enc Tryz.prog Tryz.f3 [] false w args ∧ laidMetH Tryz.prog [("math/bits.deBruijn32tab", Rows.laid_math_bits_deBruijn32tab)] w) ∧ sizedMet enc Tryz.prog Tryz.f3 (OpenSpec.ofChange Rows.blocksMadeSpec) false w args) (Rows.blocksMadeSpec.post enc Tryz.prog Tryz.f3 false true false false) := by
  refine law_liftedL (laid := [("math/bits.deBruijn32tab", Rows.laid_math_bits_deBruijn32tab)]) (C := Tryz.checked) (tb := 4) Tryz.ownBlocksMade Tryz.laidBlocksMade started (by kernel_rfl) Tryz.func3 rfl (by kernel_rfl) rfl (by kernel_rfl) ?_
    (ChangeSpec.witness_shaped (enc := enc) (C := Tryz.checked) (os := os) (X := fun w _ => laidMetH Tryz.prog [("math/bits.deBruijn32tab", Rows.laid_math_bits_deBruijn32tab)] w) false (World.doorLaid Tryz.prog 400 os) #[.int .i64 0, .int .i64 0, .slice none 0 0] 8 rfl (World.shaped_of_RefB (by kernel_rfl) (by kernel_rfl)) (by kernel_rfl) (by kernel_rfl) (by kernel_rfl) (door_met os _)) ?_
  · intro ds hl
    match ds, hl with
    | [_, _, _], _ => rfl
  · intro W base args ds p hA0 hval0 hL
    rw [MakeChecks.laidMetH_plain _ _ _ (by kernel_rfl), laid_eq] at hL
    have iG := tab_of (D := Go.Lib.deBruijn32tab) gTab tTab Tryz.underlying172 Tryz.underlying5 (by kernel_rfl) (by decide) hL
    have hval : ∀ (j : Nat) t v, Tryz.f3.params[j]? = some t → args[j]? = some v → Value.okWide Tryz.prog W .any base t v := hval0
    have hA : DataW.TrodAll enc Tryz.prog W 0 (fun _ => true) true Tryz.f3.params.toList args.toList ds p := hA0
    rw [Tryz.params3] at hA hval
    obtain ⟨v0, v1, v2, d0, d1, d2, p0, p1, p2, rfl, rfl, rfl, h0, h1, h2⟩ := trodAll_three hA
    obtain ⟨n0, rfl, _⟩ := arg_int Tryz.underlying3 (hval 0 3 v0 rfl rfl) h0
    obtain ⟨n1, rfl, _⟩ := arg_int Tryz.underlying3 (hval 1 3 v1 rfl rfl) h1
    obtain ⟨s2, l2, rfl, i2, _⟩ := arg_slice Tryz.underlying22 (rdg_slice Tryz.underlying22 rfl (rdg_int Tryz.underlying3)) (hval 2 22 v2 rfl rfl) h2
    refine (sparselaw15_BlocksMade_ok (ros := [imm (rI .i64) s2.v l2, globF]) (rs := []) (Km.blocksMade_true n0 n1 l2) rfl (by simp) (by simp) (topSt ?_)).mono ?_
    · intro q hq
      simp only [List.mem_cons, List.not_mem_nil, or_false] at hq
      rcases hq with rfl | rfl
      · exact i2
      · exact iG
    · rintro e W' ⟨he, hst⟩
      exact ⟨he, _, _, hst⟩

theorem blocksMade_holds : Rows.BlocksMadeSaid :=
  OpenClaim.holds_of_wide 3 Tryz.f3 rfl rfl rfl rfl rfl rfl rfl ⟨rfl, rfl, rfl, rfl, rfl⟩ rfl rfl rfl rfl rfl (by kernel_rfl) Tryz.func3 (by kernel_rfl)
    (of_decide_eq_true (by kernel_rfl)) (by unfold Func.isWrapper; rw [if_neg (by decide +kernel)]; exact ⟨rfl, rfl⟩)
    (fun os started H enc _ => blocksMade_lifted os started H enc)

theorem blocksMade_card_holds : Rows.BlocksMadeCardSaid :=
  Claim7.holds_tied_plain_at .later [] [.data] true (true, "6312d80390e76dbc5d4d524c9db5e89f990926eea3485be2aff68e10b4d58c42") false
    blocksMade_holds (fun _ h => by cases h) (by kernel_rfl) (fun _ h => by cases h) blocksMade_row_tie rfl ⟨rfl, rfl⟩ (by kernel_rfl) rfl
    (fun f fn hf hfn => by
      obtain rfl : f = 3 := Option.some.inj ((show Tryz.prog.funcNamed "sparse/sparselaw15.BlocksMade" = some 3 by kernel_rfl).symm.trans hf) |>.symm
      obtain rfl : fn = Tryz.f3 := (Option.some.inj (Tryz.func3.symm.trans hfn)).symm
      exact ⟨by kernel_rfl, fun j t ht => by
        rw [Tryz.params3] at ht
        have hm : t ∈ [3, 3, 22] := by simpa using Array.mem_of_getElem? ht
        have hall : ([3, 3, 22].all fun u => !Tryz.prog.wantsStandIn u) = true := by kernel_rfl
        exact (show Tryz.prog.wantsStandIn t = false by simpa using List.all_eq_true.1 hall t hm)⟩)
    (by kernel_rfl)
end Go.Proofs.YtgnfkbaghjmgiaaGreatDoor
