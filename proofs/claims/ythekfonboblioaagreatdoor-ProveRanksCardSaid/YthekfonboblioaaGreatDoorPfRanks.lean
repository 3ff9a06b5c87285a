/- The law ProveRanks returns true for every input, and each input reads as it did. -/
import Derived.Test.YthekfonboblioaaGreatDoorRows
import Derived.Test.YthekfonboblioaaGreatDoorSxQ
import Derived.Test.YthekfonboblioaaGreatDoorCards
import Derived.Test.YthekfonboblioaaGreatDoorTie
import Derived.SevenTiedAt
import Derived.Test.YthekfonboblioaaGreatDoorW13
import Derived.Carry
import Derived.Test.YthekfonboblioaaGreatDoorQzC
import Derived.ProofKit
namespace Go.Proofs.YthekfonboblioaaGreatDoor
open Go.ChangeShapes Go.WideShapes Go.ChangeAt Go.WideMaps Go.WideElems Go.RowKit Sx M

section
variable {H : Type} {enc : TypeId × Value → H} {P : Program} {w : World} {base : Nat} {spare : Nat → Bool} {held : Bool}
theorem wv {t0 t1 t2 t3 t4 : TypeId} {args : Array Value} {ds : List (DataW H)} {ps : List MemPlace} (h : DataW.TrodAll enc P w base spare held [t0, t1, t2, t3, t4] args.toList ds ps) :
    ∃ v0 v1 v2 v3 v4 d0 d1 d2 d3 d4 p0 p1 p2 p3 p4, args = #[v0, v1, v2, v3, v4] ∧ ds = [d0, d1, d2, d3, d4] ∧ ps = p0 ++ p1 ++ p2 ++ p3 ++ p4 ∧ DataW.Trod enc P w base spare held t0 v0 d0 p0 ∧ DataW.Trod enc P w base spare held t1 v1 d1 p1 ∧ DataW.Trod enc P w base spare held t2 v2 d2 p2 ∧ DataW.Trod enc P w base spare held t3 v3 d3 p3 ∧ DataW.Trod enc P w base spare held t4 v4 d4 p4 := by
  obtain ⟨v0, l0, d0, e0, p0, q0, ha, rfl, rfl, h0, r0⟩ := trodAll_cons h
  obtain ⟨v1, l1, d1, e1, p1, q1, rfl, rfl, rfl, h1, r1⟩ := trodAll_cons r0
  obtain ⟨v2, l2, d2, e2, p2, q2, rfl, rfl, rfl, h2, r2⟩ := trodAll_cons r1
  obtain ⟨v3, l3, d3, e3, p3, q3, rfl, rfl, rfl, h3, r3⟩ := trodAll_cons r2
  obtain ⟨v4, l4, d4, e4, p4, q4, rfl, rfl, rfl, h4, r4⟩ := trodAll_cons r3
  obtain ⟨rfl, rfl, rfl⟩ := trodAll_nil r4
  exact ⟨v0, v1, v2, v3, v4, d0, d1, d2, d3, d4, p0, p1, p2, p3, p4, by cases args; simp_all, rfl, by simp, h0, h1, h2, h3, h4⟩
end

theorem Tryz.ownProveRanks : ownKnob Tryz.prog.godebug = none := by kernel_rfl
theorem Tryz.laidProveRanks : laidOutB Tryz.prog = true := by kernel_rfl

theorem gTab : Tryz.prog.globalNamed "math/bits.deBruijn32tab" = some 0 := by kernel_rfl
theorem tTab : (Tryz.prog.globals[0]?).map (·.type) = some 195 := by kernel_rfl
theorem Zz : (Rows.laid_math_bits_deBruijn32tab : DataW Unit) = .agg (Go.Lib.deBruijn32tab.map fun (k : Nat) => .lit (.int .u8 (k : Int))) := by kernel_rfl
theorem GB (os : Os) (args : Array Value) : laidMetH Tryz.prog [("math/bits.deBruijn32tab", Rows.laid_math_bits_deBruijn32tab)] ((World.doorLaid Tryz.prog 400 os).forCall (fun _ _ => 0) ⟨#[], args, []⟩).memory :=
  laidMetH_of_parts3 (fuel := 8) (laidMet_of_run' 8 I0 I0) I0 I0

set_option maxRecDepth 100000 in
theorem Iy (os : Os) (started : os.Started) (H : Type) (enc : TypeId × Value → H) :
    ReturnsInHanded {} Tryz.checked os 3 .any (fun w args => (Rows.proveRanksSpec.pre enc Tryz.prog Tryz.f3 [] false w args ∧ laidMetH Tryz.prog [("math/bits.deBruijn32tab", Rows.laid_math_bits_deBruijn32tab)] w) ∧ sizedMet enc Tryz.prog Tryz.f3 (OpenSpec.ofChange Rows.proveRanksSpec) false w args) (Rows.proveRanksSpec.post enc Tryz.prog Tryz.f3 false true false false) := by
  refine Yz (laid := [("math/bits.deBruijn32tab", Rows.laid_math_bits_deBruijn32tab)]) (C := Tryz.checked) (tb := 4) Tryz.ownProveRanks Tryz.laidProveRanks started I0 Tryz.func3 rfl I0 rfl I0 ?_
    (ChangeSpec.witness_shaped (enc := enc) (C := Tryz.checked) (os := os) (X := fun w _ => laidMetH Tryz.prog [("math/bits.deBruijn32tab", Rows.laid_math_bits_deBruijn32tab)] w) false (World.doorLaid Tryz.prog 400 os) #[.slice none 0 0, .int .i64 0, .int .i64 0, .int .i64 0, .bool false] 8 rfl (World.shaped_of_RefB I0 I0) I0 I0 I0 (GB os _)) ?_
  · intro ds hl
    match ds, hl with
    | [_, _, _, _, _], _ => rfl
  · intro W base args ds p hA0 hval0 hL
    rw [MakeChecks.laidMetH_plain _ _ _ I0, Zz] at hL
    have iG := Kv (D := Go.Lib.deBruijn32tab) gTab tTab Tryz.underlying195 Tryz.underlying5 I0 (by decide) hL
    have hval : ∀ (j : Nat) t v, Tryz.f3.params[j]? = some t → args[j]? = some v → Value.okWide Tryz.prog W .any base t v := hval0
    have hA : DataW.TrodAll enc Tryz.prog W 0 (fun _ => true) true Tryz.f3.params.toList args.toList ds p := hA0
    rw [Tryz.params3] at hA hval
    obtain ⟨v0, v1, v2, v3, v4, d0, d1, d2, d3, d4, p0, p1, p2, p3, p4, rfl, rfl, rfl, h0, h1, h2, h3, h4⟩ := wv hA
    obtain ⟨s0, l0, rfl, i0, o0⟩ := sC Tryz.underlying22 (Qx Tryz.underlying22 rfl (Tx Tryz.underlying39)) (hval 0 22 v0 rfl rfl) h0
    obtain ⟨n1, rfl, k1⟩ := Dj Tryz.underlying3 (hval 1 3 v1 rfl rfl) h1
    obtain ⟨n2, rfl, k2⟩ := Dj Tryz.underlying3 (hval 2 3 v2 rfl rfl) h2
    obtain ⟨n3, rfl, k3⟩ := Dj Tryz.underlying3 (hval 3 3 v3 rfl rfl) h3
    obtain ⟨n4, rfl, _, _⟩ := Go.RowKit.open_bool Tryz.underlying4 (hval 4 4 v4 rfl rfl) h4
    refine (mh (ros := [imm (rI .u64) s0.v l0, globF]) (rs := []) (Km.Hy l0 n1 n2 n3 n4 o0 k1 k2 k3) rfl H0 H0 (Cv ?_)).mono ?_
    · intro q hq
      simp only [P3, E00, or_false] at hq
      rcases hq with rfl | rfl
      · exact i0
      · exact iG
    · rintro e W' ⟨he, hst⟩
      exact ⟨he, _, _, hst⟩

theorem proveRanks_holds : Rows.ProveRanksSaid :=
  OpenClaim.holds_of_wide 3 Tryz.f3 rfl rfl rfl rfl rfl rfl rfl ⟨rfl, rfl, rfl, rfl, rfl⟩ rfl rfl rfl rfl rfl I0 Tryz.func3 I0
    (of_decide_eq_true I0) (by unfold Func.isWrapper; rw [K0 (by decide +kernel)]; exact ⟨rfl, rfl⟩)
    (fun os started H enc _ => Iy os started H enc)

theorem proveRanks_card_holds : Rows.ProveRanksCardSaid :=
  Claim7.holds_tied_plain_at .later [] [.data] true (true, "9e1e8da24be84b43127b50b86e76463e4b08cf99263a837169fbc81f01177f5f") false
    proveRanks_holds (fun _ h => by cases h) I0 (fun _ h => by cases h) proveRanks_row_tie rfl ⟨rfl, rfl⟩ I0 rfl
    (fun f fn hf hfn => by
      obtain rfl : f = 3 := N3 ((show Tryz.prog.funcNamed "sparse/sparselaw42.ProveRanks" = some 3 by kernel_rfl).symm.trans hf) |>.symm
      obtain rfl : fn = Tryz.f3 := (N3 (Tryz.func3.symm.trans hfn)).symm
      exact ⟨I0, fun j t ht => by
        rw [Tryz.params3] at ht
        have hm : t ∈ [22, 3, 3, 3, 4] := by simpa using Array.mem_of_getElem? ht
        have hall : ([22, 3, 3, 3, 4].all fun u => !Tryz.prog.wantsStandIn u) = true := by kernel_rfl
        exact (show Tryz.prog.wantsStandIn t = false by simpa using N6.1 hall t hm)⟩)
    I0
end Go.Proofs.YthekfonboblioaaGreatDoor
