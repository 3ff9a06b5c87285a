/- The law TopSeparated returns true for every input, and each input reads as it did. -/
import Derived.Test.YtoahkigijbeegaaGreatDoorRows
import Derived.Test.YtoahkigijbeegaaGreatDoorSxQ
import Derived.Test.YtoahkigijbeegaaGreatDoorCards
import Derived.Test.YtoahkigijbeegaaGreatDoorTie
import Derived.SevenTiedAt
import Derived.Test.YtoahkigijbeegaaGreatDoorW16
import Derived.Carry
import Derived.Test.YtoahkigijbeegaaGreatDoorQzC
import Derived.ProofKit
namespace Go.Proofs.YtoahkigijbeegaaGreatDoor
open Go.ChangeShapes Go.WideShapes Go.ChangeAt Go.WideMaps Go.WideElems Go.RowKit Sx M

theorem Tryz.ownTopSeparated : ownKnob Tryz.prog.godebug = none := by kernel_rfl
theorem Tryz.laidTopSeparated : laidOutB Tryz.prog = true := by kernel_rfl

theorem gTab : Tryz.prog.globalNamed "math/bits.deBruijn32tab" = some 0 := by kernel_rfl
theorem tTab : (Tryz.prog.globals[0]?).map (·.type) = some 231 := by kernel_rfl
theorem Zz : (Rows.laid_math_bits_deBruijn32tab : DataW Unit) = .agg (Go.Lib.deBruijn32tab.map fun (k : Nat) => .lit (.int .u8 (k : Int))) := by kernel_rfl
theorem CB (os : Os) (args : Array Value) : laidMetH Tryz.prog [("math/bits.deBruijn32tab", Rows.laid_math_bits_deBruijn32tab)] ((World.doorLaid Tryz.prog 400 os).forCall (fun _ _ => 0) ⟨#[], args, []⟩).memory :=
  laidMetH_of_parts3 (fuel := 8) (laidMet_of_run' 8 H0 H0) H0 H0

set_option maxRecDepth 100000 in
theorem Yv (os : Os) (started : os.Started) (H : Type) (enc : TypeId × Value → H) :
    ReturnsInHanded {} Tryz.checked os 3 .any (fun w args => (Rows.topSeparatedSpec.pre enc Tryz.prog Tryz.f3 [] false w args ∧ laidMetH Tryz.prog [("math/bits.deBruijn32tab", Rows.laid_math_bits_deBruijn32tab)] w) ∧ sizedMet enc Tryz.prog Tryz.f3 (OpenSpec.ofChange Rows.topSeparatedSpec) false w args) (Rows.topSeparatedSpec.post enc Tryz.prog Tryz.f3 false true false false) := by
  refine Yz (laid := [("math/bits.deBruijn32tab", Rows.laid_math_bits_deBruijn32tab)]) (C := Tryz.checked) (tb := 4) Tryz.ownTopSeparated Tryz.laidTopSeparated started H0 Tryz.func3 rfl H0 rfl H0 ?_
    (ChangeSpec.witness_shaped (enc := enc) (C := Tryz.checked) (os := os) (X := fun w _ => laidMetH Tryz.prog [("math/bits.deBruijn32tab", Rows.laid_math_bits_deBruijn32tab)] w) false (World.doorLaid Tryz.prog 400 os) #[.slice none 0 0, .int .i64 0, .int .i64 0] 8 rfl (World.shaped_of_RefB H0 H0) H0 H0 H0 (CB os _)) ?_
  · intro ds hl
    match ds, hl with
    | [_, _, _], _ => rfl
  · intro W base args ds p SK HI hL
    rw [MakeChecks.laidMetH_plain _ _ _ H0, Zz] at hL
    have iG := gw (D := Go.Lib.deBruijn32tab) gTab tTab Tryz.underlying231 Tryz.underlying5 H0 (by decide) hL
    have xy : ∀ (j : Nat) t v, Tryz.f3.params[j]? = some t → args[j]? = some v → Value.okWide Tryz.prog W .any base t v := HI
    have hA : DataW.TrodAll enc Tryz.prog W 0 (fun _ => true) true Tryz.f3.params.toList args.toList ds p := SK
    rw [Tryz.params3] at hA xy
    obtain ⟨v0, v1, v2, d0, d1, d2, p0, p1, p2, rfl, rfl, rfl, h0, h1, h2⟩ := trodAll_three hA
    obtain ⟨s0, l0, rfl, i0, o0⟩ := LC Tryz.underlying22 (ay Tryz.underlying22 rfl (cy Tryz.underlying55)) (xy 0 22 v0 rfl rfl) h0
    obtain ⟨n1, rfl, k1⟩ := Es Tryz.underlying3 (xy 1 3 v1 rfl rfl) h1
    obtain ⟨n2, rfl, k2⟩ := Es Tryz.underlying3 (xy 2 3 v2 rfl rfl) h2
    refine (og (mu := [imm (rI .u64) s0.v l0, globF]) (rs := []) (Ts.topSeparated_t l0 n1 n2 o0 k1 k2) rfl G0 G0 (Xv ?_)).mono ?_
    · intro q hq
      simp only [G3, qt, or_false] at hq
      rcases hq with rfl | rfl
      · exact i0
      · exact iG
    · rintro e W' ⟨he, nu⟩
      exact ⟨he, _, _, nu⟩

theorem topSeparated_holds : Rows.TopSeparatedSaid :=
  OpenClaim.holds_of_wide 3 Tryz.f3 rfl rfl rfl rfl rfl rfl rfl ⟨rfl, rfl, rfl, rfl, rfl⟩ rfl rfl rfl rfl rfl H0 Tryz.func3 H0
    (of_decide_eq_true H0) (by unfold Func.isWrapper; rw [J0 (by decide +kernel)]; exact ⟨rfl, rfl⟩)
    (fun os started H enc _ => Yv os started H enc)

theorem topSeparated_card_holds : Rows.TopSeparatedCardSaid :=
  Claim7.holds_tied_plain_at .later [] [.data] true (true, "f46165b7f40daf325d2da039294295ed335ad99d16bf9cc8533e2698ffebbeed") false
    topSeparated_holds (fun _ h => by cases h) H0 (fun _ h => by cases h) topSeparated_row_tie rfl ⟨rfl, rfl⟩ H0 rfl
    (fun f fn hf VH => by
      obtain rfl : f = 3 := P1 ((show Tryz.prog.funcNamed "sparse/sparsetop.TopSeparated" = some 3 by kernel_rfl).symm.trans hf) |>.symm
      obtain rfl : fn = Tryz.f3 := (P1 (Tryz.func3.symm.trans VH)).symm
      exact ⟨H0, fun j t ht => by
        rw [Tryz.params3] at ht
        have hm : t ∈ [22, 3, 3] := by simpa using Array.mem_of_getElem? ht
        have iv : ([22, 3, 3].all fun u => !Tryz.prog.wantsStandIn u) = true := by kernel_rfl
        exact (show Tryz.prog.wantsStandIn t = false by simpa using Q6.1 iv t hm)⟩)
    H0
end Go.Proofs.YtoahkigijbeegaaGreatDoor
