/- The law BlocksExact returns true for every input, and each input reads as it did. -/
import Derived.Test.YtgnfkbaghjmgiaaGreatRows
import Derived.Test.YtgnfkbaghjmgiaaGreatSxR
import Derived.Test.YtgnfkbaghjmgiaaGreatW5
import Derived.Test.YtgnfkbaghjmgiaaGreatPyC
import Derived.ProofKit
namespace Go.Proofs.YtgnfkbaghjmgiaaGreat
open Go.ChangeShapes Go.WideShapes Go.ChangeAt Go.RowKit Sx M

section
variable {H : Type} {enc : TypeId × Value → H} {P : Program} {w : World}
theorem fldT {t : TypeId} {fs : Array Field} {cs : List Value} (ht : P.underlying t = some (.struct fs)) (h : ∃ n y, DataW.trod enc P w 0 (fun _ => true) true n t cs = some y) :
    ∀ (i : Nat) (f : Field), fs[i]? = some f → ∃ n y, DataW.trod enc P w 0 (fun _ => true) true n f.type ((cs.drop f.offset).take (P.cellsOf f.type)) = some y := by
  obtain ⟨n, y, h⟩ := h
  obtain ⟨xs, n, _, _, hl, hxl, hfl⟩ := DataW.trod_struct ht h
  intro i f hi
  have h1 := hfl i f hi
  have hlt : i < xs.length := by rw [hxl]; exact (Array.getElem?_eq_some_iff.1 hi).1
  exact ⟨n, xs[i], by rw [h1]; simp [hlt]⟩
theorem fldI {t : TypeId} {k : Nat} {ik : IntKind} {cs : List Value} {v : Value} (ht : P.underlying t = some (.int ik)) (hc : (cs.drop k).take (P.cellsOf t) = [v]) (h : ∃ n y, DataW.trod enc P w 0 (fun _ => true) true n t ((cs.drop k).take (P.cellsOf t)) = some y) : ∃ n, v = .int ik n := by
  obtain ⟨n, y, h⟩ := h
  rw [hc] at h
  obtain ⟨a, ha, _⟩ := rdg_int ht H enc w n _ _ h
  exact ⟨a, by injection (show [v] = [Value.int ik a] from ha)⟩
theorem fldS {t : TypeId} {k : Nat} {α : Type} {E : Rp α} {ok : List α → Prop} {cs : List Value} {v : Value} (hr : Rdg P t (rS E) ok) (hc : (cs.drop k).take (P.cellsOf t) = [v]) (h : ∃ n y, DataW.trod enc P w 0 (fun _ => true) true n t ((cs.drop k).take (P.cellsOf t)) = some y) : ∃ (s : Hdr) (l : List α), v = s.v ∧ (imm E s.v l).h w (fun b => b < w.heap.size) := by
  obtain ⟨n, y, h⟩ := h
  rw [hc] at h
  obtain ⟨l, ⟨u, hu, hi⟩, _⟩ := hr H enc w n _ _ h
  have : v = u := by simpa using hu
  subst this
  obtain ⟨s, rfl⟩ := hi.1.hdr
  exact ⟨s, l, rfl, hi⟩
end
theorem len3 {cs : List Value} (h : cs.length = 3) : ∃ x0 x1 x2, cs = [x0, x1, x2] := by
  match cs, h with
  | [x0, x1, x2], _ => exact ⟨_, _, _, rfl⟩
theorem len5 {cs : List Value} (h : cs.length = 5) : ∃ x0 x1 x2 x3 x4, cs = [x0, x1, x2, x3, x4] := by
  match cs, h with
  | [x0, x1, x2, x3, x4], _ => exact ⟨_, _, _, _, _, rfl⟩

theorem Tryz.ownBlocksExact : ownKnob Tryz.prog.godebug = none := by kernel_rfl
theorem Tryz.laidBlocksExact : laidOutB Tryz.prog = true := by kernel_rfl

set_option maxRecDepth 100000 in
theorem blocksExact_lifted (os : Os) (started : os.Started) (H : Type) (enc : TypeId × Value → H) :
    ReturnsInHanded {} Tryz.checked os 3 .any (Rows.blocksExactSpec.pre6 enc Tryz.prog Tryz.f3 Rows.blocksExactRow.domain false) (Rows.blocksExactSpec.post enc Tryz.prog Tryz.f3 false true false false) := by
  refine law_lifted (C := Tryz.checked) (tb := 4) Tryz.ownBlocksExact Tryz.laidBlocksExact started (by kernel_rfl) Tryz.func3 rfl (by kernel_rfl) rfl (by kernel_rfl) ?_
    (ChangeSpec.witness6 (enc := enc) (C := Tryz.checked) false ⟨#[], #[.agg #[.int .i64 0, .int .i64 0, .slice none 0 0, .slice none 0 0, .slice none 0 0], .agg #[.slice none 0 0, .slice none 0 0, .slice none 0 0]], []⟩ 8 (by kernel_rfl) (by kernel_rfl) (by kernel_rfl) (by kernel_rfl)) ?_
  · intro ds hl
    match ds, hl with
    | [_, _], _ => rfl
  · intro W base args ds p hA0 hval0
    have hval : ∀ (j : Nat) t v, Tryz.f3.params[j]? = some t → args[j]? = some v → Value.okWide Tryz.prog W .any base t v := hval0
    have hA : DataW.TrodAll enc Tryz.prog W 0 (fun _ => true) true Tryz.f3.params.toList args.toList ds p := hA0
    rw [Tryz.params3] at hA hval
    obtain ⟨v0, v1, d0, d1, p0, p1, rfl, rfl, rfl, h0, h1⟩ := trodAll_two hA
    obtain ⟨cs0, rfl, l0, f0⟩ := arg_struct Tryz.underlying25 (hval 0 25 v0 rfl rfl) h0
    obtain ⟨a0_0, a0_1, a0_2, a0_3, a0_4, rfl⟩ := len5 (l0.trans (by kernel_rfl))
    obtain ⟨n0_0, rfl⟩ := fldI (k := 0) Tryz.underlying3 rfl (f0 0 _ rfl)
    obtain ⟨n0_1, rfl⟩ := fldI (k := 1) Tryz.underlying3 rfl (f0 1 _ rfl)
    obtain ⟨s0_2, l0_2, rfl, i0_2⟩ := fldS (k := 2) (rdg_slice Tryz.underlying22 rfl (rdg_int Tryz.underlying3)) rfl (f0 2 _ rfl)
    obtain ⟨s0_3, l0_3, rfl, i0_3⟩ := fldS (k := 3) (rdg_slice Tryz.underlying22 rfl (rdg_int Tryz.underlying3)) rfl (f0 3 _ rfl)
    obtain ⟨s0_4, l0_4, rfl, i0_4⟩ := fldS (k := 4) (rdg_slice Tryz.underlying23 rfl (rdg_int Tryz.underlying44)) rfl (f0 4 _ rfl)
    obtain ⟨cs1, rfl, l1, f1⟩ := arg_struct Tryz.underlying27 (hval 1 27 v1 rfl rfl) h1
    obtain ⟨a1_0, a1_1, a1_2, rfl⟩ := len3 (l1.trans (by kernel_rfl))
    obtain ⟨s1_0, l1_0, rfl, i1_0⟩ := fldS (k := 0) (rdg_slice Tryz.underlying22 rfl (rdg_int Tryz.underlying3)) rfl (f1 0 _ rfl)
    obtain ⟨s1_1, l1_1, rfl, i1_1⟩ := fldS (k := 1) (rdg_slice Tryz.underlying22 rfl (rdg_int Tryz.underlying3)) rfl (f1 1 _ rfl)
    obtain ⟨s1_2, l1_2, rfl, i1_2⟩ := fldS (k := 2) (rdg_slice Tryz.underlying22 rfl (rdg_int Tryz.underlying3)) rfl (f1 2 _ rfl)
    refine (sparselaw15_BlocksExact_ok (ros := [imm (rI .i64) s0_2.v l0_2, imm (rI .i64) s0_3.v l0_3, imm (rI .u64) s0_4.v l0_4, imm (rI .i64) s1_0.v l1_0, imm (rI .i64) s1_1.v l1_1, imm (rI .i64) s1_2.v l1_2]) (rs := []) (Km.blocksExact_true n0_0 n0_1 l0_2 l0_3 l0_4 l1_0 l1_1 l1_2) rfl (by simp) (by simp) (by simp) (by simp) (by simp) (by simp) (topSt ?_)).mono ?_
    · intro q hq
      simp only [List.mem_cons, List.not_mem_nil, or_false] at hq
      rcases hq with rfl | rfl | rfl | rfl | rfl | rfl
      · exact i0_2
      · exact i0_3
      · exact i0_4
      · exact i1_0
      · exact i1_1
      · exact i1_2
    · rintro e W' ⟨he, hst⟩
      exact ⟨he, _, _, hst⟩

theorem blocksExact_holds : Rows.BlocksExactSaid :=
  OpenClaim.holds_of_wide 3 Tryz.f3 rfl rfl rfl rfl rfl rfl rfl ⟨rfl, rfl, rfl, rfl, rfl⟩ rfl rfl rfl rfl rfl (by kernel_rfl) Tryz.func3 (by kernel_rfl)
    (of_decide_eq_true (by kernel_rfl)) (by unfold Func.isWrapper; rw [if_neg (by decide +kernel)]; exact ⟨rfl, rfl⟩)
    (fun os started H enc _ => blocksExact_lifted os started H enc)
end Go.Proofs.YtgnfkbaghjmgiaaGreat
