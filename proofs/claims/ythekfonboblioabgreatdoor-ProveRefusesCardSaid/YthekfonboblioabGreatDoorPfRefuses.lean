/- The law ProveRefuses returns true for every input, and each input reads as it did. -/
import Derived.Test.YthekfonboblioabGreatDoorRows
import Derived.Test.YthekfonboblioabGreatDoorSxQ
import Derived.Test.YthekfonboblioabGreatDoorCards
import Derived.Test.YthekfonboblioabGreatDoorTie
import Derived.SevenTiedAt
import Derived.Test.YthekfonboblioabGreatDoorW13
import Derived.Carry
import Derived.Test.YthekfonboblioabGreatDoorQzD
import Derived.ProofKit
namespace Go.Proofs.YthekfonboblioabGreatDoor
open Go.ChangeShapes Go.WideShapes Go.ChangeAt Go.WideMaps Go.WideElems Go.RowKit Sx M

theorem Tryz.ownProveRefuses : ownKnob Tryz.prog.godebug = none := by kernel_rfl
theorem Tryz.laidProveRefuses : laidOutB Tryz.prog = true := by kernel_rfl

theorem gTab : Tryz.prog.globalNamed "math/bits.deBruijn32tab" = some 0 := by kernel_rfl
theorem tTab : (Tryz.prog.globals[0]?).map (·.type) = some 192 := by kernel_rfl
theorem HC : (Rows.laid_math_bits_deBruijn32tab : DataW Unit) = .agg (Go.Lib.deBruijn32tab.map fun (k : Nat) => .lit (.int .u8 (k : Int))) := by kernel_rfl
theorem dE (os : Os) (args : Array Value) : laidMetH Tryz.prog [("math/bits.deBruijn32tab", Rows.laid_math_bits_deBruijn32tab)] ((World.doorLaid Tryz.prog 400 os).forCall (fun _ _ => 0) ⟨#[], args, []⟩).memory :=
  laidMetH_of_parts3 (fuel := 8) (laidMet_of_run' 8 I0 I0) I0 I0

set_option maxRecDepth 100000 in
theorem tB (os : Os) (started : os.Started) (H : Type) (enc : TypeId × Value → H) :
    ReturnsInHanded {} Tryz.checked os 3 .any (fun w args => (Rows.proveRefusesSpec.pre enc Tryz.prog Tryz.f3 [] false w args ∧ laidMetH Tryz.prog [("math/bits.deBruijn32tab", Rows.laid_math_bits_deBruijn32tab)] w) ∧ sizedMet enc Tryz.prog Tryz.f3 (OpenSpec.ofChange Rows.proveRefusesSpec) false w args) (Rows.proveRefusesSpec.post enc Tryz.prog Tryz.f3 false true false false) := by
  refine GC (laid := [("math/bits.deBruijn32tab", Rows.laid_math_bits_deBruijn32tab)]) (C := Tryz.checked) (tb := 4) Tryz.ownProveRefuses Tryz.laidProveRefuses started I0 Tryz.func3 rfl I0 rfl I0 ?_
    (ChangeSpec.witness_shaped (enc := enc) (C := Tryz.checked) (os := os) (X := fun w _ => laidMetH Tryz.prog [("math/bits.deBruijn32tab", Rows.laid_math_bits_deBruijn32tab)] w) false (World.doorLaid Tryz.prog 400 os) #[.slice none 0 0, .int .i64 0, .int .i64 0, .int .i64 0] 8 rfl (World.shaped_of_RefB I0 I0) I0 I0 I0 (dE os _)) ?_
  · intro ds hl
    match ds, hl with
    | [_, _, _, _], _ => rfl
  · intro W base args ds p VS bN hL
    rw [MakeChecks.laidMetH_plain _ _ _ I0, HC] at hL
    have iG := Wy (D := Go.Lib.deBruijn32tab) gTab tTab Tryz.underlying192 Tryz.underlying5 I0 (by decide) hL
    have yG : ∀ (j : Nat) t v, Tryz.f3.params[j]? = some t → args[j]? = some v → Value.okWide Tryz.prog W .any base t v := bN
    have hA : DataW.TrodAll enc Tryz.prog W 0 (fun _ => true) true Tryz.f3.params.toList args.toList ds p := VS
    rw [Tryz.params3] at hA yG
    obtain ⟨v0, v1, v2, v3, d0, d1, d2, d3, p0, p1, p2, p3, rfl, rfl, rfl, h0, h1, h2, h3⟩ := trodAll_four hA
    obtain ⟨s0, l0, rfl, i0, o0⟩ := eF Tryz.underlying22 (KA Tryz.underlying22 rfl (MA Tryz.underlying29)) (yG 0 22 v0 rfl rfl) h0
    obtain ⟨n1, rfl, k1⟩ := Xk Tryz.underlying3 (yG 1 3 v1 rfl rfl) h1
    obtain ⟨n2, rfl, k2⟩ := Xk Tryz.underlying3 (yG 2 3 v2 rfl rfl) h2
    obtain ⟨n3, rfl, k3⟩ := Xk Tryz.underlying3 (yG 3 3 v3 rfl rfl) h3
    refine (mi (ax := [imm (rI .u64) s0.v l0, globF]) (rs := []) (Km.oB l0 n1 n2 n3 o0 k1 k2 k3) rfl H0 H0 (Ny ?_)).mono ?_
    · intro q hq
      simp only [U3, Fv, or_false] at hq
      rcases hq with rfl | rfl
      · exact i0
      · exact iG
    · rintro e W' ⟨he, cx⟩
      exact ⟨he, _, _, cx⟩

theorem proveRefuses_holds : Rows.ProveRefusesSaid :=
  OpenClaim.holds_of_wide 3 Tryz.f3 rfl rfl rfl rfl rfl rfl rfl ⟨rfl, rfl, rfl, rfl, rfl⟩ rfl rfl rfl rfl rfl I0 Tryz.func3 I0
    (of_decide_eq_true I0) (by unfold Func.isWrapper; rw [K0 (by decide +kernel)]; exact ⟨rfl, rfl⟩)
    (fun os started H enc _ => tB os started H enc)

theorem proveRefuses_card_holds : Rows.ProveRefusesCardSaid :=
  Claim7.holds_tied_plain_at .later [] [.data] true (true, "14e4bf452bc1369756ad81b0da2118abb3169cfc38e1d977bf2befb5940ac14f") false
    proveRefuses_holds (fun _ h => by cases h) I0 (fun _ h => by cases h) proveRefuses_row_tie rfl ⟨rfl, rfl⟩ I0 rfl
    (fun f fn hf JI => by
      obtain rfl : f = 3 := N2 ((show Tryz.prog.funcNamed "sparse/sparselaw42.ProveRefuses" = some 3 by kernel_rfl).symm.trans hf) |>.symm
      obtain rfl : fn = Tryz.f3 := (N2 (Tryz.func3.symm.trans JI)).symm
      exact ⟨I0, fun j t ht => by
        rw [Tryz.params3] at ht
        have hm : t ∈ [22, 3, 3, 3] := by simpa using Array.mem_of_getElem? ht
        have Qx : ([22, 3, 3, 3].all fun u => !Tryz.prog.wantsStandIn u) = true := by kernel_rfl
        exact (show Tryz.prog.wantsStandIn t = false by simpa using w7.1 Qx t hm)⟩)
    I0
end Go.Proofs.YthekfonboblioabGreatDoor
