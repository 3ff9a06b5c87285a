/- The law DissectWeighted returns true for every input, and each input reads as it did. -/
import Derived.Test.YthpeajepbffinaaGreatRows
import Derived.Test.YthpeajepbffinaaGreatSxR
import Derived.Test.YthpeajepbffinaaGreatW6
import Derived.Test.YthpeajepbffinaaGreatPdY
import Derived.ProofKit
namespace Go.Proofs.YthpeajepbffinaaGreat
open Go.ChangeShapes Go.WideShapes Go.ChangeAt Go.RowKit Sx M

section
variable {H : Type} {enc : TypeId × Value → H} {P : Program} {w : World}
theorem fldT {t : TypeId} {fs : Array Field} {cs : List Value} (ht : P.underlying t = some (.struct fs)) (h : ∃ n y, DataW.trod enc P w 0 (fun _ => true) true n t cs = some y) :
    ∀ (i : Nat) (f : Field), fs[i]? = some f → ∃ n y, DataW.trod enc P w 0 (fun _ => true) true n f.type ((cs.drop f.offset).take (P.cellsOf f.type)) = some y := by
  obtain ⟨n, y, h⟩ := h
  obtain ⟨xs, n, _, _, hl, hxl, hfl⟩ := DataW.trod_struct ht h
  intro i f hi
  have h1 := hfl i f hi
  have hlt : i < xs.length := by rw [hxl]; exact (Array.getElem?_eq_some_iff.1 hi).1
  exact ⟨n, xs[i], by rw [h1]; simp [hlt]⟩
theorem fldI {t : TypeId} {k : Nat} {ik : IntKind} {cs : List Value} {v : Value} (ht : P.underlying t = some (.int ik)) (hc : (cs.drop k).take (P.cellsOf t) = [v]) (h : ∃ n y, DataW.trod enc P w 0 (fun _ => true) true n t ((cs.drop k).take (P.cellsOf t)) = some y) : ∃ n, v = .int ik n := by
  obtain ⟨n, y, h⟩ := h
  rw [hc] at h
  obtain ⟨a, ha, _⟩ := rdg_int ht H enc w n _ _ h
  exact ⟨a, by injection (show [v] = [Value.int ik a] from ha)⟩
theorem fldS {t : TypeId} {k : Nat} {α : Type} {E : Rp α} {ok : List α → Prop} {cs : List Value} {v : Value} (hr : Rdg P t (rS E) ok) (hc : (cs.drop k).take (P.cellsOf t) = [v]) (h : ∃ n y, DataW.trod enc P w 0 (fun _ => true) true n t ((cs.drop k).take (P.cellsOf t)) = some y) : ∃ (s : Hdr) (l : List α), v = s.v ∧ (imm E s.v l).h w (fun b => b < w.heap.size) := by
  obtain ⟨n, y, h⟩ := h
  rw [hc] at h
  obtain ⟨l, ⟨u, hu, hi⟩, _⟩ := hr H enc w n _ _ h
  have : v = u := by simpa using hu
  subst this
  obtain ⟨s, rfl⟩ := hi.1.hdr
  exact ⟨s, l, rfl, hi⟩
end
theorem len3 {cs : List Value} (h : cs.length = 3) : ∃ x0 x1 x2, cs = [x0, x1, x2] := by
  match cs, h with
  | [x0, x1, x2], _ => exact ⟨_, _, _, rfl⟩

theorem Tryz.ownDissectWeighted : ownKnob Tryz.prog.godebug = none := by kernel_rfl
theorem Tryz.laidDissectWeighted : laidOutB Tryz.prog = true := by kernel_rfl

set_option maxRecDepth 100000 in
theorem dissectWeighted_lifted (os : Os) (started : os.Started) (H : Type) (enc : TypeId × Value → H) :
    ReturnsInHanded {} Tryz.checked os 4 .any (Rows.dissectWeightedSpec.pre6 enc Tryz.prog Tryz.f4 Rows.dissectWeightedRow.domain false) (Rows.dissectWeightedSpec.post enc Tryz.prog Tryz.f4 false true false false) := by
  refine law_lifted (C := Tryz.checked) (tb := 4) Tryz.ownDissectWeighted Tryz.laidDissectWeighted started (by kernel_rfl) Tryz.func4 rfl (by kernel_rfl) rfl (by kernel_rfl) ?_
    (ChangeSpec.witness6 (enc := enc) (C := Tryz.checked) false ⟨#[], #[.agg #[.slice none 0 0, .slice none 0 0, .slice none 0 0], .slice none 0 0], []⟩ 8 (by kernel_rfl) (by kernel_rfl) (by kernel_rfl) (by kernel_rfl)) ?_
  · intro ds hl
    match ds, hl with
    | [_, _], _ => rfl
  · intro W base args ds p hA0 hval0
    have hval : ∀ (j : Nat) t v, Tryz.f4.params[j]? = some t → args[j]? = some v → Value.okWide Tryz.prog W .any base t v := hval0
    have hA : DataW.TrodAll enc Tryz.prog W 0 (fun _ => true) true Tryz.f4.params.toList args.toList ds p := hA0
    rw [Tryz.params4] at hA hval
    obtain ⟨v0, v1, d0, d1, p0, p1, rfl, rfl, rfl, h0, h1⟩ := trodAll_two hA
    obtain ⟨cs0, rfl, l0, f0⟩ := arg_struct Tryz.underlying28 (hval 0 28 v0 rfl rfl) h0
    obtain ⟨a0_0, a0_1, a0_2, rfl⟩ := len3 (l0.trans (by kernel_rfl))
    have g0_0 := fldT Tryz.underlying26 (f0 0 _ rfl)
    obtain ⟨s0_0_0, l0_0_0, rfl, i0_0_0⟩ := fldS (k := 0) (rdg_slice Tryz.underlying24 rfl (rdg_slice Tryz.underlying22 rfl (rdg_int Tryz.underlying3))) rfl (g0_0 0 _ rfl)
    obtain ⟨s0_1, l0_1, rfl, i0_1⟩ := fldS (k := 1) (rdg_slice Tryz.underlying22 rfl (rdg_int Tryz.underlying3)) rfl (f0 1 _ rfl)
    obtain ⟨s0_2, l0_2, rfl, i0_2⟩ := fldS (k := 2) (rdg_slice Tryz.underlying24 rfl (rdg_slice Tryz.underlying22 rfl (rdg_int Tryz.underlying3))) rfl (f0 2 _ rfl)
    obtain ⟨s1, l1, rfl, i1, _⟩ := arg_slice Tryz.underlying22 (rdg_slice Tryz.underlying22 rfl (rdg_int Tryz.underlying3)) (hval 1 22 v1 rfl rfl) h1
    refine (sparselaw18_DissectWeighted_ok (ros := [imm (rS (rI .i64)) s0_0_0.v l0_0_0, imm (rI .i64) s0_1.v l0_1, imm (rS (rI .i64)) s0_2.v l0_2, imm (rI .i64) s1.v l1]) (rs := []) (Pd.dissectWeighted_true l0_0_0 l0_1 l0_2 l1) rfl (by simp) (by simp) (by simp) (by simp) (topSt ?_)).mono ?_
    · intro q hq
      simp only [List.mem_cons, List.not_mem_nil, or_false] at hq
      rcases hq with rfl | rfl | rfl | rfl
      · exact i0_0_0
      · exact i0_1
      · exact i0_2
      · exact i1
    · rintro e W' ⟨he, hst⟩
      exact ⟨he, _, _, hst⟩

theorem dissectWeighted_holds : Rows.DissectWeightedSaid :=
  OpenClaim.holds_of_wide 4 Tryz.f4 rfl rfl rfl rfl rfl rfl rfl ⟨rfl, rfl, rfl, rfl, rfl⟩ rfl rfl rfl rfl rfl (by kernel_rfl) Tryz.func4 (by kernel_rfl)
    (of_decide_eq_true (by kernel_rfl)) (by unfold Func.isWrapper; rw [if_neg (by decide +kernel)]; exact ⟨rfl, rfl⟩)
    (fun os started H enc _ => dissectWeighted_lifted os started H enc)
end Go.Proofs.YthpeajepbffinaaGreat
