/- The law ModularChinese returns true for every input, and each input reads as it did. -/
import Derived.Test.YtnfamnfdndaekaaGreatDoorRows
import Derived.Test.YtnfamnfdndaekaaGreatDoorSxN
import Derived.Test.YtnfamnfdndaekaaGreatDoorCards
import Derived.Test.YtnfamnfdndaekaaGreatDoorTie
import Derived.SevenTiedAt
import Derived.Test.YtnfamnfdndaekaaGreatDoorW4
import Derived.Carry
import Derived.Test.YtnfamnfdndaekaaGreatDoorQzB
import Derived.ProofKit
namespace Go.Proofs.YtnfamnfdndaekaaGreatDoor
open Go.ChangeShapes Go.WideShapes Go.ChangeAt Go.WideMaps Go.WideElems Go.RowKit Sx M

section
variable {H : Type} {enc : TypeId × Value → H} {P : Program} {w : World}
theorem fldI {t : TypeId} {k : Nat} {ik : IntKind} {cs : List Value} {v : Value} (ht : P.underlying t = some (.int ik)) (hc : (cs.drop k).take (P.cellsOf t) = [v]) (h : ∃ n y, DataW.trod enc P w 0 (fun _ => true) true n t ((cs.drop k).take (P.cellsOf t)) = some y) : ∃ n, v = .int ik n := by
  obtain ⟨n, y, h⟩ := h
  rw [hc] at h
  obtain ⟨a, ha, _⟩ := rdg_int ht H enc w n _ _ h
  exact ⟨a, by injection (show [v] = [Value.int ik a] from ha)⟩
theorem fldS {t : TypeId} {k : Nat} {α : Type} {E : Rp α} {ok : List α → Prop} {cs : List Value} {v : Value} (hr : Rdg P t (rS E) ok) (hc : (cs.drop k).take (P.cellsOf t) = [v]) (h : ∃ n y, DataW.trod enc P w 0 (fun _ => true) true n t ((cs.drop k).take (P.cellsOf t)) = some y) : ∃ (s : Hdr) (l : List α), v = s.v ∧ (imm E s.v l).h w (fun b => b < w.heap.size) ∧ ok l := by
  obtain ⟨n, y, h⟩ := h
  rw [hc] at h
  obtain ⟨l, ⟨u, hu, hi⟩, hok⟩ := hr H enc w n _ _ h
  have : v = u := by simpa using hu
  subst this
  obtain ⟨s, rfl⟩ := hi.1.hdr
  exact ⟨s, l, rfl, hi, hok⟩
theorem fldB {t : TypeId} {k : Nat} {cs : List Value} {v : Value} (ht : P.underlying t = some .bool) (hc : (cs.drop k).take (P.cellsOf t) = [v]) (h : ∃ n y, DataW.trod enc P w 0 (fun _ => true) true n t ((cs.drop k).take (P.cellsOf t)) = some y) : ∃ n, v = .bool n := by
  obtain ⟨n, y, h⟩ := h
  rw [hc] at h
  obtain ⟨a, ha, _⟩ := rdg_bool ht H enc w n _ _ h
  exact ⟨a, by injection (show [v] = [Value.bool a] from ha)⟩
end
theorem len2 {cs : List Value} (h : cs.length = 2) : ∃ x0 x1, cs = [x0, x1] := by
  match cs, h with
  | [x0, x1], _ => exact ⟨_, _, rfl⟩

theorem Tryz.ownModularChinese : ownKnob Tryz.prog.godebug = none := by kernel_rfl
theorem Tryz.laidModularChinese : laidOutB Tryz.prog = true := by kernel_rfl

theorem door_met (os : Os) (args : Array Value) : laidMetH Tryz.prog [("math/bits.deBruijn32tab", Rows.laid_math_bits_deBruijn32tab), ("math/bits.deBruijn64tab", Rows.laid_math_bits_deBruijn64tab), ("internal/strconv.uint64pow10", Rows.laid_internal_strconv_uint64pow10)] ((World.doorLaid Tryz.prog 400 os).forCall (fun _ _ => 0) ⟨#[], args, []⟩).memory :=
  laidMetH_of_parts3 (fuel := 8) (laidMet_of_run' 8 (by kernel_rfl) (by kernel_rfl)) (by kernel_rfl) (by kernel_rfl)

set_option maxRecDepth 100000 in
theorem modularChinese_lifted (os : Os) (started : os.Started) (H : Type) (enc : TypeId × Value → H) :
    ReturnsInHanded {} Tryz.checked os 4 .any (fun w args => (Rows.modularChineseSpec.pre enc Tryz.prog Tryz.f4 [] false w args ∧ laidMetH Tryz.prog [("math/bits.deBruijn32tab", Rows.laid_math_bits_deBruijn32tab), ("math/bits.deBruijn64tab", Rows.laid_math_bits_deBruijn64tab), ("internal/strconv.uint64pow10", Rows.laid_internal_strconv_uint64pow10)] w) ∧ sizedMet enc Tryz.prog Tryz.f4 (OpenSpec.ofChange Rows.modularChineseSpec) false w args) (Rows.modularChineseSpec.post enc Tryz.prog Tryz.f4 false true false false) := by
  refine law_liftedL (laid := [("math/bits.deBruijn32tab", Rows.laid_math_bits_deBruijn32tab), ("math/bits.deBruijn64tab", Rows.laid_math_bits_deBruijn64tab), ("internal/strconv.uint64pow10", Rows.laid_internal_strconv_uint64pow10)]) (C := Tryz.checked) (tb := 4) Tryz.ownModularChinese Tryz.laidModularChinese started (by kernel_rfl) Tryz.func4 rfl (by kernel_rfl) rfl (by kernel_rfl) ?_
    (ChangeSpec.witness_shaped (enc := enc) (C := Tryz.checked) (os := os) (X := fun w _ => laidMetH Tryz.prog [("math/bits.deBruijn32tab", Rows.laid_math_bits_deBruijn32tab), ("math/bits.deBruijn64tab", Rows.laid_math_bits_deBruijn64tab), ("internal/strconv.uint64pow10", Rows.laid_internal_strconv_uint64pow10)] w) false (World.doorLaid Tryz.prog 400 os) #[.agg #[.bool false, .slice none 0 0], .slice none 0 0] 8 rfl (World.shaped_of_RefB (by kernel_rfl) (by kernel_rfl)) (by kernel_rfl) (by kernel_rfl) (by kernel_rfl) (door_met os _)) ?_
  · intro ds hl
    match ds, hl with
    | [_, _], _ => rfl
  · intro W base args ds p hA0 hval0 hL
    have hval : ∀ (j : Nat) t v, Tryz.f4.params[j]? = some t → args[j]? = some v → Value.okWide Tryz.prog W .any base t v := hval0
    have hA : DataW.TrodAll enc Tryz.prog W 0 (fun _ => true) true Tryz.f4.params.toList args.toList ds p := hA0
    rw [Tryz.params4] at hA hval
    obtain ⟨v0, v1, d0, d1, p0, p1, rfl, rfl, rfl, h0, h1⟩ := trodAll_two hA
    obtain ⟨cs0, rfl, l0, f0⟩ := arg_struct Tryz.underlying27 (hval 0 27 v0 rfl rfl) h0
    obtain ⟨a0_0, a0_1, rfl⟩ := len2 (l0.trans (by kernel_rfl))
    obtain ⟨n0_0, rfl⟩ := fldB (k := 0) Tryz.underlying4 rfl (f0 0 _ rfl)
    obtain ⟨s0_1, l0_1, rfl, i0_1, o0_1⟩ := fldS (k := 1) (rdg_slice Tryz.underlying25 rfl (rdg_int Tryz.underlying88)) rfl (f0 1 _ rfl)
    obtain ⟨s1, l1, rfl, i1, o1⟩ := arg_slice Tryz.underlying22 (rdg_slice Tryz.underlying22 rfl (rdg_int Tryz.underlying3)) (hval 1 22 v1 rfl rfl) h1
    refine (sparselaw07_ModularChinese_ok (ros := [imm (rI .u32) s0_1.v l0_1, imm (rI .i64) s1.v l1]) (rs := []) (Km.modularChinese_t n0_0 l0_1 l1 o0_1 o1) rfl (by simp) (by simp) (topSt ?_)).mono ?_
    · intro q hq
      simp only [List.mem_cons, List.not_mem_nil, or_false] at hq
      rcases hq with rfl | rfl
      · exact i0_1
      · exact i1
    · rintro e W' ⟨he, hst⟩
      exact ⟨he, _, _, hst⟩

theorem modularChinese_holds : Rows.ModularChineseSaid :=
  OpenClaim.holds_of_wide 4 Tryz.f4 rfl rfl rfl rfl rfl rfl rfl ⟨rfl, rfl, rfl, rfl, rfl⟩ rfl rfl rfl rfl rfl (by kernel_rfl) Tryz.func4 (by kernel_rfl)
    (of_decide_eq_true (by kernel_rfl)) (by unfold Func.isWrapper; rw [if_neg (by decide +kernel)]; exact ⟨rfl, rfl⟩)
    (fun os started H enc _ => modularChinese_lifted os started H enc)

theorem modularChinese_card_holds : Rows.ModularChineseCardSaid :=
  Claim7.holds_tied_plain_at .later [] [.data, .data, .data] true (true, "131d9fa871850e366e4c65cef2ddedce9a03dfa2b3ed55b5163e62ce924f59a9") false
    modularChinese_holds (fun _ h => by cases h) (by kernel_rfl) (fun _ h => by cases h) modularChinese_row_tie rfl ⟨rfl, rfl⟩ (by kernel_rfl) rfl
    (fun f fn hf hfn => by
      obtain rfl : f = 4 := Option.some.inj ((show Tryz.prog.funcNamed "sparse/sparselaw07.ModularChinese" = some 4 by kernel_rfl).symm.trans hf) |>.symm
      obtain rfl : fn = Tryz.f4 := (Option.some.inj (Tryz.func4.symm.trans hfn)).symm
      exact ⟨by kernel_rfl, fun j t ht => by
        rw [Tryz.params4] at ht
        have hm : t ∈ [27, 22] := by simpa using Array.mem_of_getElem? ht
        have hall : ([27, 22].all fun u => !Tryz.prog.wantsStandIn u) = true := by kernel_rfl
        exact (show Tryz.prog.wantsStandIn t = false by simpa using List.all_eq_true.1 hall t hm)⟩)
    (by kernel_rfl)
end Go.Proofs.YtnfamnfdndaekaaGreatDoor
