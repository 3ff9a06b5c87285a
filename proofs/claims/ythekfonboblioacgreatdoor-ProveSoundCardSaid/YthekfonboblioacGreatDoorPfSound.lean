/- The law ProveSound returns true for every input, and each input reads as it did. -/
import Derived.Test.YthekfonboblioacGreatDoorRows
import Derived.Test.YthekfonboblioacGreatDoorSxQ
import Derived.Test.YthekfonboblioacGreatDoorCards
import Derived.Test.YthekfonboblioacGreatDoorTie
import Derived.SevenTiedAt
import Derived.Test.YthekfonboblioacGreatDoorW13
import Derived.Carry
import Derived.Test.YthekfonboblioacGreatDoorQzC
import Derived.ProofKit
namespace Go.Proofs.YthekfonboblioacGreatDoor
open Go.ChangeShapes Go.WideShapes Go.ChangeAt Go.WideMaps Go.WideElems Go.RowKit Sx M

section
variable {H : Type} {enc : TypeId × Value → H} {P : Program} {w : World} {base : Nat} {spare : Nat → Bool} {held : Bool}
theorem Hw {t0 t1 t2 t3 t4 t5 t6 t7 : TypeId} {args : Array Value} {ds : List (DataW H)} {ps : List MemPlace} (h : DataW.TrodAll enc P w base spare held [t0, t1, t2, t3, t4, t5, t6, t7] args.toList ds ps) :
    ∃ v0 v1 v2 v3 v4 v5 v6 v7 d0 d1 d2 d3 d4 d5 d6 d7 p0 p1 p2 p3 p4 p5 p6 p7, args = #[v0, v1, v2, v3, v4, v5, v6, v7] ∧ ds = [d0, d1, d2, d3, d4, d5, d6, d7] ∧ ps = p0 ++ p1 ++ p2 ++ p3 ++ p4 ++ p5 ++ p6 ++ p7 ∧ DataW.Trod enc P w base spare held t0 v0 d0 p0 ∧ DataW.Trod enc P w base spare held t1 v1 d1 p1 ∧ DataW.Trod enc P w base spare held t2 v2 d2 p2 ∧ DataW.Trod enc P w base spare held t3 v3 d3 p3 ∧ DataW.Trod enc P w base spare held t4 v4 d4 p4 ∧ DataW.Trod enc P w base spare held t5 v5 d5 p5 ∧ DataW.Trod enc P w base spare held t6 v6 d6 p6 ∧ DataW.Trod enc P w base spare held t7 v7 d7 p7 := by
  obtain ⟨v0, l0, d0, e0, p0, q0, ha, rfl, rfl, h0, r0⟩ := trodAll_cons h
  obtain ⟨v1, l1, d1, e1, p1, q1, rfl, rfl, rfl, h1, r1⟩ := trodAll_cons r0
  obtain ⟨v2, l2, d2, e2, p2, q2, rfl, rfl, rfl, h2, r2⟩ := trodAll_cons r1
  obtain ⟨v3, l3, d3, e3, p3, q3, rfl, rfl, rfl, h3, r3⟩ := trodAll_cons r2
  obtain ⟨v4, l4, d4, e4, p4, q4, rfl, rfl, rfl, h4, r4⟩ := trodAll_cons r3
  obtain ⟨v5, l5, d5, e5, p5, q5, rfl, rfl, rfl, h5, r5⟩ := trodAll_cons r4
  obtain ⟨v6, l6, d6, e6, p6, q6, rfl, rfl, rfl, h6, r6⟩ := trodAll_cons r5
  obtain ⟨v7, l7, d7, e7, p7, q7, rfl, rfl, rfl, h7, r7⟩ := trodAll_cons r6
  obtain ⟨rfl, rfl, rfl⟩ := trodAll_nil r7
  exact ⟨v0, v1, v2, v3, v4, v5, v6, v7, d0, d1, d2, d3, d4, d5, d6, d7, p0, p1, p2, p3, p4, p5, p6, p7, by cases args; simp_all, rfl, by simp, h0, h1, h2, h3, h4, h5, h6, h7⟩
end

theorem Tryz.ownProveSound : ownKnob Tryz.prog.godebug = none := by kernel_rfl
theorem Tryz.laidProveSound : laidOutB Tryz.prog = true := by kernel_rfl

theorem gTab : Tryz.prog.globalNamed "math/bits.deBruijn32tab" = some 0 := by kernel_rfl
theorem tTab : (Tryz.prog.globals[0]?).map (·.type) = some 182 := by kernel_rfl
theorem TA : (Rows.laid_math_bits_deBruijn32tab : DataW Unit) = .agg (Go.Lib.deBruijn32tab.map fun (k : Nat) => .lit (.int .u8 (k : Int))) := by kernel_rfl
theorem AC (os : Os) (args : Array Value) : laidMetH Tryz.prog [("math/bits.deBruijn32tab", Rows.laid_math_bits_deBruijn32tab)] ((World.doorLaid Tryz.prog 400 os).forCall (fun _ _ => 0) ⟨#[], args, []⟩).memory :=
  laidMetH_of_parts3 (fuel := 8) (laidMet_of_run' 8 I0 I0) I0 I0

set_option maxRecDepth 100000 in
theorem Kz (os : Os) (started : os.Started) (H : Type) (enc : TypeId × Value → H) :
    ReturnsInHanded {} Tryz.checked os 3 .any (fun w args => (Rows.proveSoundSpec.pre enc Tryz.prog Tryz.f3 [] false w args ∧ laidMetH Tryz.prog [("math/bits.deBruijn32tab", Rows.laid_math_bits_deBruijn32tab)] w) ∧ sizedMet enc Tryz.prog Tryz.f3 (OpenSpec.ofChange Rows.proveSoundSpec) false w args) (Rows.proveSoundSpec.post enc Tryz.prog Tryz.f3 false true false false) := by
  refine SA (laid := [("math/bits.deBruijn32tab", Rows.laid_math_bits_deBruijn32tab)]) (C := Tryz.checked) (tb := 4) Tryz.ownProveSound Tryz.laidProveSound started I0 Tryz.func3 rfl I0 rfl I0 ?_
    (ChangeSpec.witness_shaped (enc := enc) (C := Tryz.checked) (os := os) (X := fun w _ => laidMetH Tryz.prog [("math/bits.deBruijn32tab", Rows.laid_math_bits_deBruijn32tab)] w) false (World.doorLaid Tryz.prog 400 os) #[.slice none 0 0, .int .i64 0, .int .i64 0, .bool false, .int .i64 0, .int .i64 0, .slice none 0 0, .slice none 0 0] 8 rfl (World.shaped_of_RefB I0 I0) I0 I0 I0 (AC os _)) ?_
  · intro ds hl
    match ds, hl with
    | [_, _, _, _, _, _, _, _], _ => rfl
  · intro W base args ds p hA0 hval0 hL
    rw [MakeChecks.laidMetH_plain _ _ _ I0, TA] at hL
    have iG := Vw (D := Go.Lib.deBruijn32tab) gTab tTab Tryz.underlying182 Tryz.underlying5 I0 (by decide) hL
    have hval : ∀ (j : Nat) t v, Tryz.f3.params[j]? = some t → args[j]? = some v → Value.okWide Tryz.prog W .any base t v := hval0
    have hA : DataW.TrodAll enc Tryz.prog W 0 (fun _ => true) true Tryz.f3.params.toList args.toList ds p := hA0
    rw [Tryz.params3] at hA hval
    obtain ⟨v0, v1, v2, v3, v4, v5, v6, v7, d0, d1, d2, d3, d4, d5, d6, d7, p0, p1, p2, p3, p4, p5, p6, p7, rfl, rfl, rfl, h0, h1, h2, h3, h4, h5, h6, h7⟩ := Hw hA
    obtain ⟨s0, l0, rfl, i0, o0⟩ := Yj Tryz.underlying22 (Ri Tryz.underlying22 rfl (iz Tryz.underlying44)) (hval 0 22 v0 rfl rfl) h0
    obtain ⟨n1, rfl, k1⟩ := Og Tryz.underlying3 (hval 1 3 v1 rfl rfl) h1
    obtain ⟨n2, rfl, k2⟩ := Og Tryz.underlying3 (hval 2 3 v2 rfl rfl) h2
    obtain ⟨n3, rfl, _, _⟩ := Go.RowKit.open_bool Tryz.underlying4 (hval 3 4 v3 rfl rfl) h3
    obtain ⟨n4, rfl, k4⟩ := Og Tryz.underlying3 (hval 4 3 v4 rfl rfl) h4
    obtain ⟨n5, rfl, k5⟩ := Og Tryz.underlying3 (hval 5 3 v5 rfl rfl) h5
    obtain ⟨s6, l6, rfl, i6, o6⟩ := Yj Tryz.underlying23 (Ri Tryz.underlying23 rfl (cr Tryz.underlying4)) (hval 6 23 v6 rfl rfl) h6
    obtain ⟨s7, l7, rfl, i7, o7⟩ := Yj Tryz.underlying23 (Ri Tryz.underlying23 rfl (cr Tryz.underlying4)) (hval 7 23 v7 rfl rfl) h7
    refine (zh (ros := [imm (rI .u64) s0.v l0, imm rB s6.v l6, imm rB s7.v l7, globF]) (rs := []) (Km.Jz l0 n1 n2 n3 n4 n5 l6 l7 o0 k1 k2 k4 k5) rfl H0 H0 H0 H0 (Nw ?_)).mono ?_
    · intro q hq
      simp only [P3, Cu, or_false] at hq
      rcases hq with rfl | rfl | rfl | rfl
      · exact i0
      · exact i6
      · exact i7
      · exact iG
    · rintro e W' ⟨he, hst⟩
      exact ⟨he, _, _, hst⟩

theorem proveSound_holds : Rows.ProveSoundSaid :=
  OpenClaim.holds_of_wide 3 Tryz.f3 rfl rfl rfl rfl rfl rfl rfl ⟨rfl, rfl, rfl, rfl, rfl⟩ rfl rfl rfl rfl rfl I0 Tryz.func3 I0
    (of_decide_eq_true I0) (by unfold Func.isWrapper; rw [K0 (by decide +kernel)]; exact ⟨rfl, rfl⟩)
    (fun os started H enc _ => Kz os started H enc)

theorem proveSound_card_holds : Rows.ProveSoundCardSaid :=
  Claim7.holds_tied_plain_at .later [] [.data] true (true, "0f4e8ad0492816c6c1c83827b8fa7b5daa7a0e96ef1c55df7ce7b7941e5be3a3") false
    proveSound_holds (fun _ h => by cases h) I0 (fun _ h => by cases h) proveSound_row_tie rfl ⟨rfl, rfl⟩ I0 rfl
    (fun f fn hf hfn => by
      obtain rfl : f = 3 := N3 ((show Tryz.prog.funcNamed "sparse/sparselaw42.ProveSound" = some 3 by kernel_rfl).symm.trans hf) |>.symm
      obtain rfl : fn = Tryz.f3 := (N3 (Tryz.func3.symm.trans hfn)).symm
      exact ⟨I0, fun j t ht => by
        rw [Tryz.params3] at ht
        have hm : t ∈ [22, 3, 3, 4, 3, 3, 23, 23] := by simpa using Array.mem_of_getElem? ht
        have hall : ([22, 3, 3, 4, 3, 3, 23, 23].all fun u => !Tryz.prog.wantsStandIn u) = true := by kernel_rfl
        exact (show Tryz.prog.wantsStandIn t = false by simpa using E7.1 hall t hm)⟩)
    I0
end Go.Proofs.YthekfonboblioacGreatDoor
