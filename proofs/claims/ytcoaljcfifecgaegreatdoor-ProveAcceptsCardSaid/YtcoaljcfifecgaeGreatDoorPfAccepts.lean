/- The law ProveAccepts returns true for every input, and each input reads as it did. -/
import Derived.Test.YtcoaljcfifecgaeGreatDoorRows
import Derived.Test.YtcoaljcfifecgaeGreatDoorSxQ
import Derived.Test.YtcoaljcfifecgaeGreatDoorCards
import Derived.Test.YtcoaljcfifecgaeGreatDoorTie
import Derived.SevenTiedAt
import Derived.Test.YtcoaljcfifecgaeGreatDoorW12
import Derived.Carry
import Derived.Test.YtcoaljcfifecgaeGreatDoorQzC
import Derived.ProofKit
namespace Go.Proofs.YtcoaljcfifecgaeGreatDoor
open Go.ChangeShapes Go.WideShapes Go.ChangeAt Go.WideMaps Go.WideElems Go.RowKit Sx M

section
variable {H : Type} {enc : TypeId × Value → H} {P : Program} {w : World} {base : Nat} {spare : Nat → Bool} {held : Bool}
theorem trodAll_5 {t0 t1 t2 t3 t4 : TypeId} {args : Array Value} {ds : List (DataW H)} {ps : List MemPlace} (h : DataW.TrodAll enc P w base spare held [t0, t1, t2, t3, t4] args.toList ds ps) :
    ∃ v0 v1 v2 v3 v4 d0 d1 d2 d3 d4 p0 p1 p2 p3 p4, args = #[v0, v1, v2, v3, v4] ∧ ds = [d0, d1, d2, d3, d4] ∧ ps = p0 ++ p1 ++ p2 ++ p3 ++ p4 ∧ DataW.Trod enc P w base spare held t0 v0 d0 p0 ∧ DataW.Trod enc P w base spare held t1 v1 d1 p1 ∧ DataW.Trod enc P w base spare held t2 v2 d2 p2 ∧ DataW.Trod enc P w base spare held t3 v3 d3 p3 ∧ DataW.Trod enc P w base spare held t4 v4 d4 p4 := by
  obtain ⟨v0, l0, d0, e0, p0, q0, ha, rfl, rfl, h0, r0⟩ := trodAll_cons h
  obtain ⟨v1, l1, d1, e1, p1, q1, rfl, rfl, rfl, h1, r1⟩ := trodAll_cons r0
  obtain ⟨v2, l2, d2, e2, p2, q2, rfl, rfl, rfl, h2, r2⟩ := trodAll_cons r1
  obtain ⟨v3, l3, d3, e3, p3, q3, rfl, rfl, rfl, h3, r3⟩ := trodAll_cons r2
  obtain ⟨v4, l4, d4, e4, p4, q4, rfl, rfl, rfl, h4, r4⟩ := trodAll_cons r3
  obtain ⟨rfl, rfl, rfl⟩ := trodAll_nil r4
  exact ⟨v0, v1, v2, v3, v4, d0, d1, d2, d3, d4, p0, p1, p2, p3, p4, by cases args; simp_all, rfl, by simp, h0, h1, h2, h3, h4⟩
end

theorem Tryz.ownProveAccepts : ownKnob Tryz.prog.godebug = none := by kernel_rfl
theorem Tryz.laidProveAccepts : laidOutB Tryz.prog = true := by kernel_rfl

theorem gTab : Tryz.prog.globalNamed "math/bits.deBruijn32tab" = some 0 := by kernel_rfl
theorem tTab : (Tryz.prog.globals[0]?).map (·.type) = some 181 := by kernel_rfl
theorem laid_eq : (Rows.laid_math_bits_deBruijn32tab : DataW Unit) = .agg (Go.Lib.deBruijn32tab.map fun (k : Nat) => .lit (.int .u8 (k : Int))) := by kernel_rfl
theorem door_met (os : Os) (args : Array Value) : laidMetH Tryz.prog [("math/bits.deBruijn32tab", Rows.laid_math_bits_deBruijn32tab)] ((World.doorLaid Tryz.prog 400 os).forCall (fun _ _ => 0) ⟨#[], args, []⟩).memory :=
  laidMetH_of_parts3 (fuel := 8) (laidMet_of_run' 8 (by kernel_rfl) (by kernel_rfl)) (by kernel_rfl) (by kernel_rfl)

set_option maxRecDepth 100000 in
theorem proveAccepts_lifted (os : Os) (started : os.Started) (H : Type) (enc : TypeId × Value → H) :
    ReturnsInHanded {} Tryz.checked os 3 .any (fun w args => (Rows.proveAcceptsSpec.pre enc Tryz.prog Tryz.f3 [] false w args ∧ laidMetH Tryz.prog [("math/bits.deBruijn32tab", Rows.laid_math_bits_deBruijn32tab)] w) ∧ sizedMet enc Tryz.prog Tryz.f3 (OpenSpec.ofChange Rows.proveAcceptsSpec) false w args) (Rows.proveAcceptsSpec.post enc Tryz.prog Tryz.f3 false true false false) := by
  refine law_liftedL (laid := [("math/bits.deBruijn32tab", Rows.laid_math_bits_deBruijn32tab)]) (C := Tryz.checked) (tb := 4) Tryz.ownProveAccepts Tryz.laidProveAccepts started (by kernel_rfl) Tryz.func3 rfl (by kernel_rfl) rfl (by kernel_rfl) ?_
    (ChangeSpec.witness_shaped (enc := enc) (C := Tryz.checked) (os := os) (X := fun w _ => laidMetH Tryz.prog [("math/bits.deBruijn32tab", Rows.laid_math_bits_deBruijn32tab)] w) false (World.doorLaid Tryz.prog 400 os) #[.slice none 0 0, .int .i64 0, .int .i64 0, .int .i64 0, .bool false] 8 rfl (World.shaped_of_RefB (by kernel_rfl) (by kernel_rfl)) (by kernel_rfl) (by kernel_rfl) (by kernel_rfl) (door_met os _)) ?_
  · intro ds hl
    match ds, hl with
    | [_, _, _, _, _], _ => rfl
  · intro W base args ds p hA0 hval0 hL
    rw [MakeChecks.laidMetH_plain _ _ _ (by kernel_rfl), laid_eq] at hL
    have iG := tab_of (D := Go.Lib.deBruijn32tab) gTab tTab Tryz.underlying181 Tryz.underlying5 (by kernel_rfl) (by decide) hL
    have hval : ∀ (j : Nat) t v, Tryz.f3.params[j]? = some t → args[j]? = some v → Value.okWide Tryz.prog W .any base t v := hval0
    have hA : DataW.TrodAll enc Tryz.prog W 0 (fun _ => true) true Tryz.f3.params.toList args.toList ds p := hA0
    rw [Tryz.params3] at hA hval
    obtain ⟨v0, v1, v2, v3, v4, d0, d1, d2, d3, d4, p0, p1, p2, p3, p4, rfl, rfl, rfl, h0, h1, h2, h3, h4⟩ := trodAll_5 hA
    obtain ⟨s0, l0, rfl, i0, o0⟩ := arg_slice Tryz.underlying22 (rdg_slice Tryz.underlying22 rfl (rdg_int Tryz.underlying42)) (hval 0 22 v0 rfl rfl) h0
    obtain ⟨n1, rfl, k1⟩ := arg_int Tryz.underlying3 (hval 1 3 v1 rfl rfl) h1
    obtain ⟨n2, rfl, k2⟩ := arg_int Tryz.underlying3 (hval 2 3 v2 rfl rfl) h2
    obtain ⟨n3, rfl, k3⟩ := arg_int Tryz.underlying3 (hval 3 3 v3 rfl rfl) h3
    obtain ⟨n4, rfl, _, _⟩ := Go.RowKit.open_bool Tryz.underlying4 (hval 4 4 v4 rfl rfl) h4
    refine (w_e0 (ros := [imm (rI .u64) s0.v l0, globF]) (rs := []) (Km.proveAccepts_t l0 n1 n2 n3 n4 o0 k1 k2 k3) rfl (by simp) (by simp) (topSt ?_)).mono ?_
    · intro q hq
      simp only [List.mem_cons, List.not_mem_nil, or_false] at hq
      rcases hq with rfl | rfl
      · exact i0
      · exact iG
    · rintro e W' ⟨he, hst⟩
      exact ⟨he, _, _, hst⟩

theorem proveAccepts_holds : Rows.ProveAcceptsSaid :=
  OpenClaim.holds_of_wide 3 Tryz.f3 rfl rfl rfl rfl rfl rfl rfl ⟨rfl, rfl, rfl, rfl, rfl⟩ rfl rfl rfl rfl rfl (by kernel_rfl) Tryz.func3 (by kernel_rfl)
    (of_decide_eq_true (by kernel_rfl)) (by unfold Func.isWrapper; rw [if_neg (by decide +kernel)]; exact ⟨rfl, rfl⟩)
    (fun os started H enc _ => proveAccepts_lifted os started H enc)

theorem proveAccepts_card_holds : Rows.ProveAcceptsCardSaid :=
  Claim7.holds_tied_plain_at .later [] [.data] true (true, "50bcff5a853ec63aac8e8a284deffe646c47615565c3fc3b1c5b71c3a9f6267c") false
    proveAccepts_holds (fun _ h => by cases h) (by kernel_rfl) (fun _ h => by cases h) proveAccepts_row_tie rfl ⟨rfl, rfl⟩ (by kernel_rfl) rfl
    (fun f fn hf hfn => by
      obtain rfl : f = 3 := Option.some.inj ((show Tryz.prog.funcNamed "sparse/sparselaw42.ProveAccepts" = some 3 by kernel_rfl).symm.trans hf) |>.symm
      obtain rfl : fn = Tryz.f3 := (Option.some.inj (Tryz.func3.symm.trans hfn)).symm
      exact ⟨by kernel_rfl, fun j t ht => by
        rw [Tryz.params3] at ht
        have hm : t ∈ [22, 3, 3, 3, 4] := by simpa using Array.mem_of_getElem? ht
        have hall : ([22, 3, 3, 3, 4].all fun u => !Tryz.prog.wantsStandIn u) = true := by kernel_rfl
        exact (show Tryz.prog.wantsStandIn t = false by simpa using List.all_eq_true.1 hall t hm)⟩)
    (by kernel_rfl)
end Go.Proofs.YtcoaljcfifecgaeGreatDoor
