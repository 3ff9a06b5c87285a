/- The law EtreeAny returns true for every input, and each input reads as it did. -/
import Derived.Test.YtoelidgkfpmgnaaRows
import Derived.Test.YtoelidgkfpmgnaaSxR
import Derived.Test.YtoelidgkfpmgnaaW4
import Derived.Test.YtoelidgkfpmgnaaPuL
import Derived.ProofKit
namespace Go.Proofs.Ytoelidgkfpmgnaa
open Go.ChangeShapes Go.WideShapes Go.ChangeAt Go.RowKit Sx M

section
variable {H : Type} {enc : TypeId × Value → H} {P : Program} {w : World}
theorem fldI {t : TypeId} {k : Nat} {ik : IntKind} {cs : List Value} {v : Value} (ht : P.underlying t = some (.int ik)) (hc : (cs.drop k).take (P.cellsOf t) = [v]) (h : ∃ n y, DataW.trod enc P w 0 (fun _ => true) true n t ((cs.drop k).take (P.cellsOf t)) = some y) : ∃ n, v = .int ik n := by
  obtain ⟨n, y, h⟩ := h
  rw [hc] at h
  obtain ⟨a, ha, _⟩ := rdg_int ht H enc w n _ _ h
  exact ⟨a, by injection (show [v] = [Value.int ik a] from ha)⟩
theorem fldS {t : TypeId} {k : Nat} {α : Type} {E : Rp α} {ok : List α → Prop} {cs : List Value} {v : Value} (hr : Rdg P t (rS E) ok) (hc : (cs.drop k).take (P.cellsOf t) = [v]) (h : ∃ n y, DataW.trod enc P w 0 (fun _ => true) true n t ((cs.drop k).take (P.cellsOf t)) = some y) : ∃ (s : Hdr) (l : List α), v = s.v ∧ (imm E s.v l).h w (fun b => b < w.heap.size) := by
  obtain ⟨n, y, h⟩ := h
  rw [hc] at h
  obtain ⟨l, ⟨u, hu, hi⟩, _⟩ := hr H enc w n _ _ h
  have : v = u := by simpa using hu
  subst this
  obtain ⟨s, rfl⟩ := hi.1.hdr
  exact ⟨s, l, rfl, hi⟩
end
theorem len1 {cs : List Value} (h : cs.length = 1) : ∃ x0, cs = [x0] := by
  match cs, h with
  | [x0], _ => exact ⟨_, rfl⟩
theorem len5 {cs : List Value} (h : cs.length = 5) : ∃ x0 x1 x2 x3 x4, cs = [x0, x1, x2, x3, x4] := by
  match cs, h with
  | [x0, x1, x2, x3, x4], _ => exact ⟨_, _, _, _, _, rfl⟩

theorem Try.ownEtreeAny : ownKnob Try.prog.godebug = none := by kernel_rfl
theorem Try.laidEtreeAny : laidOutB Try.prog = true := by kernel_rfl

set_option maxRecDepth 100000 in
theorem etreeAny_lifted (os : Os) (started : os.Started) (H : Type) (enc : TypeId × Value → H) :
    ReturnsInHanded {} Try.checked os 7 .any (Rows.etreeAnySpec.pre6 enc Try.prog Try.f7 Rows.etreeAnyRow.domain false) (Rows.etreeAnySpec.post enc Try.prog Try.f7 false true false false) := by
  refine law_lifted (C := Try.checked) (tb := 4) Try.ownEtreeAny Try.laidEtreeAny started (by kernel_rfl) Try.func7 rfl (by kernel_rfl) rfl (by kernel_rfl) ?_
    (ChangeSpec.witness6 (enc := enc) (C := Try.checked) false ⟨#[], #[.agg #[.slice none 0 0], .agg #[.int .i64 0, .int .i64 0, .slice none 0 0, .slice none 0 0, .slice none 0 0]], []⟩ 8 (by kernel_rfl) (by kernel_rfl) (by kernel_rfl) (by kernel_rfl)) ?_
  · intro ds hl
    match ds, hl with
    | [_, _], _ => rfl
  · intro W base args ds p hA0 hval0
    have hval : ∀ (j : Nat) t v, Try.f7.params[j]? = some t → args[j]? = some v → Value.okWide Try.prog W .any base t v := hval0
    have hA : DataW.TrodAll enc Try.prog W 0 (fun _ => true) true Try.f7.params.toList args.toList ds p := hA0
    rw [Try.params7] at hA hval
    obtain ⟨v0, v1, d0, d1, p0, p1, rfl, rfl, rfl, h0, h1⟩ := trodAll_two hA
    obtain ⟨cs0, rfl, l0, f0⟩ := arg_struct Try.underlying27 (hval 0 27 v0 rfl rfl) h0
    obtain ⟨a0_0, rfl⟩ := len1 (l0.trans (by kernel_rfl))
    obtain ⟨s0_0, l0_0, rfl, i0_0⟩ := fldS (k := 0) (rdg_slice Try.underlying25 rfl (rdg_slice Try.underlying22 rfl (rdg_int Try.underlying3))) rfl (f0 0 _ rfl)
    obtain ⟨cs1, rfl, l1, f1⟩ := arg_struct Try.underlying42 (hval 1 42 v1 rfl rfl) h1
    obtain ⟨a1_0, a1_1, a1_2, a1_3, a1_4, rfl⟩ := len5 (l1.trans (by kernel_rfl))
    obtain ⟨n1_0, rfl⟩ := fldI (k := 0) Try.underlying3 rfl (f1 0 _ rfl)
    obtain ⟨n1_1, rfl⟩ := fldI (k := 1) Try.underlying3 rfl (f1 1 _ rfl)
    obtain ⟨s1_2, l1_2, rfl, i1_2⟩ := fldS (k := 2) (rdg_slice Try.underlying22 rfl (rdg_int Try.underlying3)) rfl (f1 2 _ rfl)
    obtain ⟨s1_3, l1_3, rfl, i1_3⟩ := fldS (k := 3) (rdg_slice Try.underlying22 rfl (rdg_int Try.underlying3)) rfl (f1 3 _ rfl)
    obtain ⟨s1_4, l1_4, rfl, i1_4⟩ := fldS (k := 4) (rdg_slice Try.underlying40 rfl (rdg_int Try.underlying75)) rfl (f1 4 _ rfl)
    refine (sparselaw19_EtreeAny_ok (ros := [imm (rS (rI .i64)) s0_0.v l0_0, imm (rI .i64) s1_2.v l1_2, imm (rI .i64) s1_3.v l1_3, imm (rI .u64) s1_4.v l1_4]) (rs := []) (Pu.etreeAny_true l0_0 n1_0 n1_1 l1_2 l1_3 l1_4) (by simp) (by simp) (by simp) (by simp) (topSt ?_)).mono ?_
    · intro q hq
      simp only [List.mem_cons, List.not_mem_nil, or_false] at hq
      rcases hq with rfl | rfl | rfl | rfl
      · exact i0_0
      · exact i1_2
      · exact i1_3
      · exact i1_4
    · rintro e W' ⟨he, hst⟩
      exact ⟨he, _, _, hst⟩

theorem etreeAny_holds : Rows.EtreeAnySaid :=
  OpenClaim.holds_of_wide 7 Try.f7 rfl rfl rfl rfl rfl rfl rfl ⟨rfl, rfl, rfl, rfl, rfl⟩ rfl rfl rfl rfl rfl (by kernel_rfl) Try.func7 (by kernel_rfl)
    (of_decide_eq_true (by kernel_rfl)) (by unfold Func.isWrapper; rw [if_neg (by decide +kernel)]; exact ⟨rfl, rfl⟩)
    (fun os started H enc _ => etreeAny_lifted os started H enc)
end Go.Proofs.Ytoelidgkfpmgnaa
