/- The law ModularRational returns true for every input, and each input reads as it did. -/
import Derived.Test.YtnfamnfdndaekaaGreatDoorRows
import Derived.Test.YtnfamnfdndaekaaGreatDoorSxN
import Derived.Test.YtnfamnfdndaekaaGreatDoorCards
import Derived.Test.YtnfamnfdndaekaaGreatDoorTie
import Derived.SevenTiedAt
import Derived.Test.YtnfamnfdndaekaaGreatDoorW6
import Derived.Carry
import Derived.Test.YtnfamnfdndaekaaGreatDoorQzC
import Derived.ProofKit
namespace Go.Proofs.YtnfamnfdndaekaaGreatDoor
open Go.ChangeShapes Go.WideShapes Go.ChangeAt Go.WideMaps Go.WideElems Go.RowKit Sx M

section
variable {H : Type} {enc : TypeId × Value → H} {P : Program} {w : World}
theorem fldI {t : TypeId} {k : Nat} {ik : IntKind} {cs : List Value} {v : Value} (ht : P.underlying t = some (.int ik)) (hc : (cs.drop k).take (P.cellsOf t) = [v]) (h : ∃ n y, DataW.trod enc P w 0 (fun _ => true) true n t ((cs.drop k).take (P.cellsOf t)) = some y) : ∃ n, v = .int ik n := by
  obtain ⟨n, y, h⟩ := h
  rw [hc] at h
  obtain ⟨a, ha, _⟩ := rdg_int ht H enc w n _ _ h
  exact ⟨a, by injection (show [v] = [Value.int ik a] from ha)⟩
theorem fldS {t : TypeId} {k : Nat} {α : Type} {E : Rp α} {ok : List α → Prop} {cs : List Value} {v : Value} (hr : Rdg P t (rS E) ok) (hc : (cs.drop k).take (P.cellsOf t) = [v]) (h : ∃ n y, DataW.trod enc P w 0 (fun _ => true) true n t ((cs.drop k).take (P.cellsOf t)) = some y) : ∃ (s : Hdr) (l : List α), v = s.v ∧ (imm E s.v l).h w (fun b => b < w.heap.size) ∧ ok l := by
  obtain ⟨n, y, h⟩ := h
  rw [hc] at h
  obtain ⟨l, ⟨u, hu, hi⟩, hok⟩ := hr H enc w n _ _ h
  have : v = u := by simpa using hu
  subst this
  obtain ⟨s, rfl⟩ := hi.1.hdr
  exact ⟨s, l, rfl, hi, hok⟩
theorem fldB {t : TypeId} {k : Nat} {cs : List Value} {v : Value} (ht : P.underlying t = some .bool) (hc : (cs.drop k).take (P.cellsOf t) = [v]) (h : ∃ n y, DataW.trod enc P w 0 (fun _ => true) true n t ((cs.drop k).take (P.cellsOf t)) = some y) : ∃ n, v = .bool n := by
  obtain ⟨n, y, h⟩ := h
  rw [hc] at h
  obtain ⟨a, ha, _⟩ := rdg_bool ht H enc w n _ _ h
  exact ⟨a, by injection (show [v] = [Value.bool a] from ha)⟩
end
theorem len2 {cs : List Value} (h : cs.length = 2) : ∃ x0 x1, cs = [x0, x1] := by
  match cs, h with
  | [x0, x1], _ => exact ⟨_, _, rfl⟩

section
variable {H : Type} {enc : TypeId × Value → H} {P : Program} {w : World} {base : Nat} {spare : Nat → Bool} {held : Bool}
theorem trodAll_5 {t0 t1 t2 t3 t4 : TypeId} {args : Array Value} {ds : List (DataW H)} {ps : List MemPlace} (h : DataW.TrodAll enc P w base spare held [t0, t1, t2, t3, t4] args.toList ds ps) :
    ∃ v0 v1 v2 v3 v4 d0 d1 d2 d3 d4 p0 p1 p2 p3 p4, args = #[v0, v1, v2, v3, v4] ∧ ds = [d0, d1, d2, d3, d4] ∧ ps = p0 ++ p1 ++ p2 ++ p3 ++ p4 ∧ DataW.Trod enc P w base spare held t0 v0 d0 p0 ∧ DataW.Trod enc P w base spare held t1 v1 d1 p1 ∧ DataW.Trod enc P w base spare held t2 v2 d2 p2 ∧ DataW.Trod enc P w base spare held t3 v3 d3 p3 ∧ DataW.Trod enc P w base spare held t4 v4 d4 p4 := by
  obtain ⟨v0, l0, d0, e0, p0, q0, ha, rfl, rfl, h0, r0⟩ := trodAll_cons h
  obtain ⟨v1, l1, d1, e1, p1, q1, rfl, rfl, rfl, h1, r1⟩ := trodAll_cons r0
  obtain ⟨v2, l2, d2, e2, p2, q2, rfl, rfl, rfl, h2, r2⟩ := trodAll_cons r1
  obtain ⟨v3, l3, d3, e3, p3, q3, rfl, rfl, rfl, h3, r3⟩ := trodAll_cons r2
  obtain ⟨v4, l4, d4, e4, p4, q4, rfl, rfl, rfl, h4, r4⟩ := trodAll_cons r3
  obtain ⟨rfl, rfl, rfl⟩ := trodAll_nil r4
  exact ⟨v0, v1, v2, v3, v4, d0, d1, d2, d3, d4, p0, p1, p2, p3, p4, by cases args; simp_all, rfl, by simp, h0, h1, h2, h3, h4⟩
end

theorem Tryz.ownModularRational : ownKnob Tryz.prog.godebug = none := by kernel_rfl
theorem Tryz.laidModularRational : laidOutB Tryz.prog = true := by kernel_rfl

theorem door_met (os : Os) (args : Array Value) : laidMetH Tryz.prog [("math/bits.deBruijn32tab", Rows.laid_math_bits_deBruijn32tab), ("math/bits.deBruijn64tab", Rows.laid_math_bits_deBruijn64tab), ("internal/strconv.uint64pow10", Rows.laid_internal_strconv_uint64pow10)] ((World.doorLaid Tryz.prog 400 os).forCall (fun _ _ => 0) ⟨#[], args, []⟩).memory :=
  laidMetH_of_parts3 (fuel := 8) (laidMet_of_run' 8 (by kernel_rfl) (by kernel_rfl)) (by kernel_rfl) (by kernel_rfl)

set_option maxRecDepth 100000 in
theorem modularRational_lifted (os : Os) (started : os.Started) (H : Type) (enc : TypeId × Value → H) :
    ReturnsInHanded {} Tryz.checked os 8 .any (fun w args => (Rows.modularRationalSpec.pre enc Tryz.prog Tryz.f8 [] false w args ∧ laidMetH Tryz.prog [("math/bits.deBruijn32tab", Rows.laid_math_bits_deBruijn32tab), ("math/bits.deBruijn64tab", Rows.laid_math_bits_deBruijn64tab), ("internal/strconv.uint64pow10", Rows.laid_internal_strconv_uint64pow10)] w) ∧ sizedMet enc Tryz.prog Tryz.f8 (OpenSpec.ofChange Rows.modularRationalSpec) false w args) (Rows.modularRationalSpec.post enc Tryz.prog Tryz.f8 false true false false) := by
  refine law_liftedL (laid := [("math/bits.deBruijn32tab", Rows.laid_math_bits_deBruijn32tab), ("math/bits.deBruijn64tab", Rows.laid_math_bits_deBruijn64tab), ("internal/strconv.uint64pow10", Rows.laid_internal_strconv_uint64pow10)]) (C := Tryz.checked) (tb := 4) Tryz.ownModularRational Tryz.laidModularRational started (by kernel_rfl) Tryz.func8 rfl (by kernel_rfl) rfl (by kernel_rfl) ?_
    (ChangeSpec.witness_shaped (enc := enc) (C := Tryz.checked) (os := os) (X := fun w _ => laidMetH Tryz.prog [("math/bits.deBruijn32tab", Rows.laid_math_bits_deBruijn32tab), ("math/bits.deBruijn64tab", Rows.laid_math_bits_deBruijn64tab), ("internal/strconv.uint64pow10", Rows.laid_internal_strconv_uint64pow10)] w) false (World.doorLaid Tryz.prog 400 os) #[.agg #[.bool false, .slice none 0 0], .agg #[.bool false, .slice none 0 0], .int .i64 0, .int .i64 0, .int .i64 0] 8 rfl (World.shaped_of_RefB (by kernel_rfl) (by kernel_rfl)) (by kernel_rfl) (by kernel_rfl) (by kernel_rfl) (door_met os _)) ?_
  · intro ds hl
    match ds, hl with
    | [_, _, _, _, _], _ => rfl
  · intro W base args ds p hA0 hval0 hL
    have hval : ∀ (j : Nat) t v, Tryz.f8.params[j]? = some t → args[j]? = some v → Value.okWide Tryz.prog W .any base t v := hval0
    have hA : DataW.TrodAll enc Tryz.prog W 0 (fun _ => true) true Tryz.f8.params.toList args.toList ds p := hA0
    rw [Tryz.params8] at hA hval
    obtain ⟨v0, v1, v2, v3, v4, d0, d1, d2, d3, d4, p0, p1, p2, p3, p4, rfl, rfl, rfl, h0, h1, h2, h3, h4⟩ := trodAll_5 hA
    obtain ⟨cs0, rfl, l0, f0⟩ := arg_struct Tryz.underlying27 (hval 0 27 v0 rfl rfl) h0
    obtain ⟨a0_0, a0_1, rfl⟩ := len2 (l0.trans (by kernel_rfl))
    obtain ⟨n0_0, rfl⟩ := fldB (k := 0) Tryz.underlying4 rfl (f0 0 _ rfl)
    obtain ⟨s0_1, l0_1, rfl, i0_1, o0_1⟩ := fldS (k := 1) (rdg_slice Tryz.underlying25 rfl (rdg_int Tryz.underlying88)) rfl (f0 1 _ rfl)
    obtain ⟨cs1, rfl, l1, f1⟩ := arg_struct Tryz.underlying27 (hval 1 27 v1 rfl rfl) h1
    obtain ⟨a1_0, a1_1, rfl⟩ := len2 (l1.trans (by kernel_rfl))
    obtain ⟨n1_0, rfl⟩ := fldB (k := 0) Tryz.underlying4 rfl (f1 0 _ rfl)
    obtain ⟨s1_1, l1_1, rfl, i1_1, o1_1⟩ := fldS (k := 1) (rdg_slice Tryz.underlying25 rfl (rdg_int Tryz.underlying88)) rfl (f1 1 _ rfl)
    obtain ⟨n2, rfl, k2⟩ := arg_int Tryz.underlying3 (hval 2 3 v2 rfl rfl) h2
    obtain ⟨n3, rfl, k3⟩ := arg_int Tryz.underlying3 (hval 3 3 v3 rfl rfl) h3
    obtain ⟨n4, rfl, k4⟩ := arg_int Tryz.underlying3 (hval 4 3 v4 rfl rfl) h4
    refine (sparselaw07_ModularRational_ok (ros := [imm (rI .u32) s0_1.v l0_1, imm (rI .u32) s1_1.v l1_1]) (rs := []) (Km.modularRational_t n0_0 l0_1 n1_0 l1_1 n2 n3 n4 o0_1 o1_1 k2 k3 k4) rfl (by simp) (by simp) (topSt ?_)).mono ?_
    · intro q hq
      simp only [List.mem_cons, List.not_mem_nil, or_false] at hq
      rcases hq with rfl | rfl
      · exact i0_1
      · exact i1_1
    · rintro e W' ⟨he, hst⟩
      exact ⟨he, _, _, hst⟩

theorem modularRational_holds : Rows.ModularRationalSaid :=
  OpenClaim.holds_of_wide 8 Tryz.f8 rfl rfl rfl rfl rfl rfl rfl ⟨rfl, rfl, rfl, rfl, rfl⟩ rfl rfl rfl rfl rfl (by kernel_rfl) Tryz.func8 (by kernel_rfl)
    (of_decide_eq_true (by kernel_rfl)) (by unfold Func.isWrapper; rw [if_neg (by decide +kernel)]; exact ⟨rfl, rfl⟩)
    (fun os started H enc _ => modularRational_lifted os started H enc)

theorem modularRational_card_holds : Rows.ModularRationalCardSaid :=
  Claim7.holds_tied_plain_at .later [] [.data, .data, .data] true (true, "131d9fa871850e366e4c65cef2ddedce9a03dfa2b3ed55b5163e62ce924f59a9") false
    modularRational_holds (fun _ h => by cases h) (by kernel_rfl) (fun _ h => by cases h) modularRational_row_tie rfl ⟨rfl, rfl⟩ (by kernel_rfl) rfl
    (fun f fn hf hfn => by
      obtain rfl : f = 8 := Option.some.inj ((show Tryz.prog.funcNamed "sparse/sparselaw07.ModularRational" = some 8 by kernel_rfl).symm.trans hf) |>.symm
      obtain rfl : fn = Tryz.f8 := (Option.some.inj (Tryz.func8.symm.trans hfn)).symm
      exact ⟨by kernel_rfl, fun j t ht => by
        rw [Tryz.params8] at ht
        have hm : t ∈ [27, 27, 3, 3, 3] := by simpa using Array.mem_of_getElem? ht
        have hall : ([27, 27, 3, 3, 3].all fun u => !Tryz.prog.wantsStandIn u) = true := by kernel_rfl
        exact (show Tryz.prog.wantsStandIn t = false by simpa using List.all_eq_true.1 hall t hm)⟩)
    (by kernel_rfl)
end Go.Proofs.YtnfamnfdndaekaaGreatDoor
