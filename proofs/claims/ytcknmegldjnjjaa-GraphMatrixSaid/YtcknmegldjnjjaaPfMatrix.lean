/- The law GraphMatrix returns true for every input, and each input reads as it did. -/
import Derived.Test.YtcknmegldjnjjaaRows
import Derived.Test.YtcknmegldjnjjaaSxR
import Derived.Test.YtcknmegldjnjjaaW6
import Derived.Test.YtcknmegldjnjjaaPtH
import Derived.ProofKit
namespace Go.Proofs.Ytcknmegldjnjjaa
open Go.ChangeShapes Go.WideShapes Go.ChangeAt Go.RowKit Sx M

section
variable {H : Type} {enc : TypeId × Value → H} {P : Program} {w : World}
theorem fldI {t : TypeId} {k : Nat} {ik : IntKind} {cs : List Value} {v : Value} (ht : P.underlying t = some (.int ik)) (hc : (cs.drop k).take (P.cellsOf t) = [v]) (h : ∃ n y, DataW.trod enc P w 0 (fun _ => true) true n t ((cs.drop k).take (P.cellsOf t)) = some y) : ∃ n, v = .int ik n := by
  obtain ⟨n, y, h⟩ := h
  rw [hc] at h
  obtain ⟨a, ha, _⟩ := rdg_int ht H enc w n _ _ h
  exact ⟨a, by injection (show [v] = [Value.int ik a] from ha)⟩
theorem fldS {t : TypeId} {k : Nat} {α : Type} {E : Rp α} {ok : List α → Prop} {cs : List Value} {v : Value} (hr : Rdg P t (rS E) ok) (hc : (cs.drop k).take (P.cellsOf t) = [v]) (h : ∃ n y, DataW.trod enc P w 0 (fun _ => true) true n t ((cs.drop k).take (P.cellsOf t)) = some y) : ∃ (s : Hdr) (l : List α), v = s.v ∧ (imm E s.v l).h w (fun b => b < w.heap.size) := by
  obtain ⟨n, y, h⟩ := h
  rw [hc] at h
  obtain ⟨l, ⟨u, hu, hi⟩, _⟩ := hr H enc w n _ _ h
  have : v = u := by simpa using hu
  subst this
  obtain ⟨s, rfl⟩ := hi.1.hdr
  exact ⟨s, l, rfl, hi⟩
end
theorem len5 {cs : List Value} (h : cs.length = 5) : ∃ x0 x1 x2 x3 x4, cs = [x0, x1, x2, x3, x4] := by
  match cs, h with
  | [x0, x1, x2, x3, x4], _ => exact ⟨_, _, _, _, _, rfl⟩

theorem Try.ownGraphMatrix : ownKnob Try.prog.godebug = none := by kernel_rfl
theorem Try.laidGraphMatrix : laidOutB Try.prog = true := by kernel_rfl

set_option maxRecDepth 100000 in
theorem graphMatrix_lifted (os : Os) (started : os.Started) (H : Type) (enc : TypeId × Value → H) :
    ReturnsInHanded {} Try.checked os 8 .any (Rows.graphMatrixSpec.pre6 enc Try.prog Try.f8 Rows.graphMatrixRow.domain false) (Rows.graphMatrixSpec.post enc Try.prog Try.f8 false true false false) := by
  refine law_lifted (C := Try.checked) (tb := 4) Try.ownGraphMatrix Try.laidGraphMatrix started (by kernel_rfl) Try.func8 rfl (by kernel_rfl) rfl (by kernel_rfl) ?_
    (ChangeSpec.witness6 (enc := enc) (C := Try.checked) false ⟨#[], #[.agg #[.int .i64 0, .int .i64 0, .slice none 0 0, .slice none 0 0, .slice none 0 0]], []⟩ 8 (by kernel_rfl) (by kernel_rfl) (by kernel_rfl) (by kernel_rfl)) ?_
  · intro ds hl
    match ds, hl with
    | [_], _ => rfl
  · intro W base args ds p hA0 hval0
    have hval : ∀ (j : Nat) t v, Try.f8.params[j]? = some t → args[j]? = some v → Value.okWide Try.prog W .any base t v := hval0
    have hA : DataW.TrodAll enc Try.prog W 0 (fun _ => true) true Try.f8.params.toList args.toList ds p := hA0
    rw [Try.params8] at hA hval
    obtain ⟨v0, d0, rfl, rfl, h0⟩ := trodAll_one hA
    obtain ⟨cs0, rfl, l0, f0⟩ := arg_struct Try.underlying49 (hval 0 49 v0 rfl rfl) h0
    obtain ⟨a0_0, a0_1, a0_2, a0_3, a0_4, rfl⟩ := len5 (l0.trans (by kernel_rfl))
    obtain ⟨n0_0, rfl⟩ := fldI (k := 0) Try.underlying3 rfl (f0 0 _ rfl)
    obtain ⟨n0_1, rfl⟩ := fldI (k := 1) Try.underlying3 rfl (f0 1 _ rfl)
    obtain ⟨s0_2, l0_2, rfl, i0_2⟩ := fldS (k := 2) (rdg_slice Try.underlying22 rfl (rdg_int Try.underlying3)) rfl (f0 2 _ rfl)
    obtain ⟨s0_3, l0_3, rfl, i0_3⟩ := fldS (k := 3) (rdg_slice Try.underlying22 rfl (rdg_int Try.underlying3)) rfl (f0 3 _ rfl)
    obtain ⟨s0_4, l0_4, rfl, i0_4⟩ := fldS (k := 4) (rdg_slice Try.underlying47 rfl (rdg_int Try.underlying74)) rfl (f0 4 _ rfl)
    refine (sparselaw12_GraphMatrix_ok (ros := [imm (rI .i64) s0_2.v l0_2, imm (rI .i64) s0_3.v l0_3, imm (rI .u64) s0_4.v l0_4]) (rs := []) (Pl.graphMatrix_true n0_0 n0_1 l0_2 l0_3 l0_4) (by simp) (by simp) (by simp) (topSt ?_)).mono ?_
    · intro q hq
      simp only [List.mem_cons, List.not_mem_nil, or_false] at hq
      rcases hq with rfl | rfl | rfl
      · exact i0_2
      · exact i0_3
      · exact i0_4
    · rintro e W' ⟨he, hst⟩
      exact ⟨he, _, _, hst⟩

theorem graphMatrix_holds : Rows.GraphMatrixSaid :=
  OpenClaim.holds_of_wide 8 Try.f8 rfl rfl rfl rfl rfl rfl rfl ⟨rfl, rfl, rfl, rfl, rfl⟩ rfl rfl rfl rfl rfl (by kernel_rfl) Try.func8 (by kernel_rfl)
    (of_decide_eq_true (by kernel_rfl)) (by unfold Func.isWrapper; rw [if_neg (by decide +kernel)]; exact ⟨rfl, rfl⟩)
    (fun os started H enc _ => graphMatrix_lifted os started H enc)
end Go.Proofs.Ytcknmegldjnjjaa
