/- The law EtreeColumns returns true for every input, and each input reads as it did. -/
import Derived.Test.YtoelidgkfpmgnaaDoorRows
import Derived.Test.YtoelidgkfpmgnaaDoorSxQ
import Derived.Test.YtoelidgkfpmgnaaDoorCards
import Derived.Test.YtoelidgkfpmgnaaDoorTie
import Derived.SevenTiedAt
import Derived.Test.YtoelidgkfpmgnaaDoorW4
import Derived.Test.YtoelidgkfpmgnaaDoorPwB
import Derived.ProofKit
namespace Go.Proofs.YtoelidgkfpmgnaaDoor
open Go.ChangeShapes Go.WideShapes Go.ChangeAt Go.WideMaps Go.WideElems Go.RowKit Sx M

theorem Tryd.ownEtreeColumns : ownKnob Tryd.prog.godebug = none := by kernel_rfl
theorem Tryd.laidEtreeColumns : laidOutB Tryd.prog = true := by kernel_rfl

theorem gTab : Tryd.prog.globalNamed "math/bits.deBruijn32tab" = some 0 := by kernel_rfl
theorem tTab : (Tryd.prog.globals[0]?).map (·.type) = some 113 := by kernel_rfl
theorem laid_eq : (Rows.laid_math_bits_deBruijn32tab : DataW Unit) = .agg (Go.Lib.deBruijn32tab.map fun (k : Nat) => .lit (.int .u8 (k : Int))) := by kernel_rfl
theorem door_met (os : Os) (args : Array Value) : laidMetH Tryd.prog [("math/bits.deBruijn32tab", Rows.laid_math_bits_deBruijn32tab)] ((World.doorLaid Tryd.prog 400 os).forCall (fun _ _ => 0) ⟨#[], args, []⟩).memory :=
  laidMetH_of_parts3 (fuel := 8) (laidMet_of_run' 8 (by kernel_rfl) (by kernel_rfl)) (by kernel_rfl) (by kernel_rfl)

set_option maxRecDepth 100000 in
theorem etreeColumns_lifted (os : Os) (started : os.Started) (H : Type) (enc : TypeId × Value → H) :
    ReturnsInHanded {} Tryd.checked os 3 .any (fun w args => (Rows.etreeColumnsSpec.pre enc Tryd.prog Tryd.f3 [] false w args ∧ laidMetH Tryd.prog [("math/bits.deBruijn32tab", Rows.laid_math_bits_deBruijn32tab)] w) ∧ sizedMet enc Tryd.prog Tryd.f3 (OpenSpec.ofChange Rows.etreeColumnsSpec) false w args) (Rows.etreeColumnsSpec.post enc Tryd.prog Tryd.f3 false true false false) := by
  refine law_liftedL (laid := [("math/bits.deBruijn32tab", Rows.laid_math_bits_deBruijn32tab)]) (C := Tryd.checked) (tb := 4) Tryd.ownEtreeColumns Tryd.laidEtreeColumns started (by kernel_rfl) Tryd.func3 rfl (by kernel_rfl) rfl (by kernel_rfl) ?_
    (ChangeSpec.witness_shaped (enc := enc) (C := Tryd.checked) (os := os) (X := fun w _ => laidMetH Tryd.prog [("math/bits.deBruijn32tab", Rows.laid_math_bits_deBruijn32tab)] w) false (World.doorLaid Tryd.prog 400 os) #[.int .i64 0, .int .i64 0, .slice none 0 0] 8 rfl (World.shaped_of_RefB (by kernel_rfl) (by kernel_rfl)) (by kernel_rfl) (by kernel_rfl) (by kernel_rfl) (door_met os _)) ?_
  · intro ds hl
    match ds, hl with
    | [_, _, _], _ => rfl
  · intro W base args ds p hA0 hval0 hL
    rw [MakeChecks.laidMetH_plain _ _ _ (by kernel_rfl), laid_eq] at hL
    have iG := tab_of (D := Go.Lib.deBruijn32tab) gTab tTab Tryd.underlying113 Tryd.underlying5 (by kernel_rfl) (by decide) hL
    have hval : ∀ (j : Nat) t v, Tryd.f3.params[j]? = some t → args[j]? = some v → Value.okWide Tryd.prog W .any base t v := hval0
    have hA : DataW.TrodAll enc Tryd.prog W 0 (fun _ => true) true Tryd.f3.params.toList args.toList ds p := hA0
    rw [Tryd.params3] at hA hval
    obtain ⟨v0, v1, v2, d0, d1, d2, p0, p1, p2, rfl, rfl, rfl, h0, h1, h2⟩ := trodAll_three hA
    obtain ⟨n0, rfl, _⟩ := arg_int Tryd.underlying3 (hval 0 3 v0 rfl rfl) h0
    obtain ⟨n1, rfl, _⟩ := arg_int Tryd.underlying3 (hval 1 3 v1 rfl rfl) h1
    obtain ⟨s2, l2, rfl, i2, _⟩ := arg_slice Tryd.underlying22 (rdg_slice Tryd.underlying22 rfl (rdg_int Tryd.underlying3)) (hval 2 22 v2 rfl rfl) h2
    refine (sparselaw19_EtreeColumns_ok (ros := [imm (rI .i64) s2.v l2, globF]) (rs := []) (Pw.etreeColumns_true n0 n1 l2) (by simp) (by simp) (topSt ?_)).mono ?_
    · intro q hq
      simp only [List.mem_cons, List.not_mem_nil, or_false] at hq
      rcases hq with rfl | rfl
      · exact i2
      · exact iG
    · rintro e W' ⟨he, hst⟩
      exact ⟨he, _, _, hst⟩

theorem etreeColumns_holds : Rows.EtreeColumnsSaid :=
  OpenClaim.holds_of_wide 3 Tryd.f3 rfl rfl rfl rfl rfl rfl rfl ⟨rfl, rfl, rfl, rfl, rfl⟩ rfl rfl rfl rfl rfl (by kernel_rfl) Tryd.func3 (by kernel_rfl)
    (of_decide_eq_true (by kernel_rfl)) (by unfold Func.isWrapper; rw [if_neg (by decide +kernel)]; exact ⟨rfl, rfl⟩)
    (fun os started H enc _ => etreeColumns_lifted os started H enc)

theorem etreeColumns_card_holds : Rows.EtreeColumnsCardSaid :=
  Claim7.holds_tied_plain_at .later [] [.data] true (true, "5a1d5fee120a2b689b691bfb7498c0dfceec6c3b04571a0aba3f78fa26019709") false
    etreeColumns_holds (fun _ h => by cases h) (by kernel_rfl) (fun _ h => by cases h) etreeColumns_row_tie rfl ⟨rfl, rfl⟩ (by kernel_rfl) rfl
    (fun f fn hf hfn => by
      obtain rfl : f = 3 := Option.some.inj ((show Tryd.prog.funcNamed "sparse/sparselaw19.EtreeColumns" = some 3 by kernel_rfl).symm.trans hf) |>.symm
      obtain rfl : fn = Tryd.f3 := (Option.some.inj (Tryd.func3.symm.trans hfn)).symm
      exact ⟨by kernel_rfl, fun j t ht => by
        rw [Tryd.params3] at ht
        have hm : t ∈ [3, 3, 22] := by simpa using Array.mem_of_getElem? ht
        have hall : ([3, 3, 22].all fun u => !Tryd.prog.wantsStandIn u) = true := by kernel_rfl
        exact (show Tryd.prog.wantsStandIn t = false by simpa using List.all_eq_true.1 hall t hm)⟩)
    (by kernel_rfl)
end Go.Proofs.YtoelidgkfpmgnaaDoor
