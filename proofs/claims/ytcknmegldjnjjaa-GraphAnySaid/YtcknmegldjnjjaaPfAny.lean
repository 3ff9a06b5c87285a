/- The law GraphAny returns true for every input, and each input reads as it did. -/
import Derived.Test.YtcknmegldjnjjaaRows
import Derived.Test.YtcknmegldjnjjaaSxR
import Derived.Test.YtcknmegldjnjjaaW4
import Derived.Test.YtcknmegldjnjjaaPtX
import Derived.ProofKit
namespace Go.Proofs.Ytcknmegldjnjjaa
open Go.ChangeShapes Go.WideShapes Go.ChangeAt Go.RowKit Sx M

section
variable {H : Type} {enc : TypeId × Value → H} {P : Program} {w : World}
theorem fldI {t : TypeId} {k : Nat} {ik : IntKind} {cs : List Value} {v : Value} (ht : P.underlying t = some (.int ik)) (hc : (cs.drop k).take (P.cellsOf t) = [v]) (h : ∃ n y, DataW.trod enc P w 0 (fun _ => true) true n t ((cs.drop k).take (P.cellsOf t)) = some y) : ∃ n, v = .int ik n := by
  obtain ⟨n, y, h⟩ := h
  rw [hc] at h
  obtain ⟨a, ha, _⟩ := rdg_int ht H enc w n _ _ h
  exact ⟨a, by injection (show [v] = [Value.int ik a] from ha)⟩
theorem fldS {t : TypeId} {k : Nat} {α : Type} {E : Rp α} {ok : List α → Prop} {cs : List Value} {v : Value} (hr : Rdg P t (rS E) ok) (hc : (cs.drop k).take (P.cellsOf t) = [v]) (h : ∃ n y, DataW.trod enc P w 0 (fun _ => true) true n t ((cs.drop k).take (P.cellsOf t)) = some y) : ∃ (s : Hdr) (l : List α), v = s.v ∧ (imm E s.v l).h w (fun b => b < w.heap.size) := by
  obtain ⟨n, y, h⟩ := h
  rw [hc] at h
  obtain ⟨l, ⟨u, hu, hi⟩, _⟩ := hr H enc w n _ _ h
  have : v = u := by simpa using hu
  subst this
  obtain ⟨s, rfl⟩ := hi.1.hdr
  exact ⟨s, l, rfl, hi⟩
end
theorem len1 {cs : List Value} (h : cs.length = 1) : ∃ x0, cs = [x0] := by
  match cs, h with
  | [x0], _ => exact ⟨_, rfl⟩

theorem Try.ownGraphAny : ownKnob Try.prog.godebug = none := by kernel_rfl
theorem Try.laidGraphAny : laidOutB Try.prog = true := by kernel_rfl

set_option maxRecDepth 100000 in
theorem graphAny_lifted (os : Os) (started : os.Started) (H : Type) (enc : TypeId × Value → H) :
    ReturnsInHanded {} Try.checked os 7 .any (Rows.graphAnySpec.pre6 enc Try.prog Try.f7 Rows.graphAnyRow.domain false) (Rows.graphAnySpec.post enc Try.prog Try.f7 false true false false) := by
  refine law_lifted (C := Try.checked) (tb := 4) Try.ownGraphAny Try.laidGraphAny started (by kernel_rfl) Try.func7 rfl (by kernel_rfl) rfl (by kernel_rfl) ?_
    (ChangeSpec.witness6 (enc := enc) (C := Try.checked) false ⟨#[], #[.agg #[.slice none 0 0], .int .i64 0, .slice none 0 0], []⟩ 8 (by kernel_rfl) (by kernel_rfl) (by kernel_rfl) (by kernel_rfl)) ?_
  · intro ds hl
    match ds, hl with
    | [_, _, _], _ => rfl
  · intro W base args ds p hA0 hval0
    have hval : ∀ (j : Nat) t v, Try.f7.params[j]? = some t → args[j]? = some v → Value.okWide Try.prog W .any base t v := hval0
    have hA : DataW.TrodAll enc Try.prog W 0 (fun _ => true) true Try.f7.params.toList args.toList ds p := hA0
    rw [Try.params7] at hA hval
    obtain ⟨v0, v1, v2, d0, d1, d2, p0, p1, p2, rfl, rfl, rfl, h0, h1, h2⟩ := trodAll_three hA
    obtain ⟨cs0, rfl, l0, f0⟩ := arg_struct Try.underlying27 (hval 0 27 v0 rfl rfl) h0
    obtain ⟨a0_0, rfl⟩ := len1 (l0.trans (by kernel_rfl))
    obtain ⟨s0_0, l0_0, rfl, i0_0⟩ := fldS (k := 0) (rdg_slice Try.underlying25 rfl (rdg_slice Try.underlying22 rfl (rdg_int Try.underlying3))) rfl (f0 0 _ rfl)
    obtain ⟨n1, rfl, _⟩ := arg_int Try.underlying3 (hval 1 3 v1 rfl rfl) h1
    obtain ⟨s2, l2, rfl, i2, _⟩ := arg_slice Try.underlying22 (rdg_slice Try.underlying22 rfl (rdg_int Try.underlying3)) (hval 2 22 v2 rfl rfl) h2
    refine (sparselaw12_GraphAny_ok (ros := [imm (rS (rI .i64)) s0_0.v l0_0, imm (rI .i64) s2.v l2]) (rs := []) (Pu.graphAny_true l0_0 n1 l2) (by simp) (by simp) (topSt ?_)).mono ?_
    · intro q hq
      simp only [List.mem_cons, List.not_mem_nil, or_false] at hq
      rcases hq with rfl | rfl
      · exact i0_0
      · exact i2
    · rintro e W' ⟨he, hst⟩
      exact ⟨he, _, _, hst⟩

theorem graphAny_holds : Rows.GraphAnySaid :=
  OpenClaim.holds_of_wide 7 Try.f7 rfl rfl rfl rfl rfl rfl rfl ⟨rfl, rfl, rfl, rfl, rfl⟩ rfl rfl rfl rfl rfl (by kernel_rfl) Try.func7 (by kernel_rfl)
    (of_decide_eq_true (by kernel_rfl)) (by unfold Func.isWrapper; rw [if_neg (by decide +kernel)]; exact ⟨rfl, rfl⟩)
    (fun os started H enc _ => graphAny_lifted os started H enc)
end Go.Proofs.Ytcknmegldjnjjaa
