/- The law EtreeAny. -/
import Derived.Test.YtoelidgkfpmgnaaPuC
set_option linter.unusedSimpArgs false
set_option linter.unusedVariables false
namespace Pu
open Pl Sx Go M Vc

theorem twinInts_ok {l : List Int} (hl : l.length ≤ 100000) : sparsekit_TwinInts l = some l := by
  refine Ret.eq ?_
  unfold sparsekit_TwinInts
  simp only [ret_bind]
  refine ret_call (P := fun o => o = l) ?_ (fun o ho => by subst ho; simp only [ret_some])
  refine ret_loop l.length (fun k (t : List Int × Int) => t.2 = k ∧ t.1 = l.take k) ⟨rfl, by simp⟩ ?_
  rintro k ⟨s, i⟩ hk ⟨rfl, hs⟩
  simp only at hs
  subst hs
  unfold sparsekit_TwinInts_l1
  by_cases hkl : k < l.length
  · obtain ⟨x, hx⟩ : ∃ x, l[k]? = some x := ⟨l[k], by simp [hkl]⟩
    have e1 : getI l (k : Int) = some x := hx
    have e5 : (k : Int) < (l.length : Int) := by omega
    have hw : wa .i64 (k : Int) 1 = ((k + 1 : Nat) : Int) := wa1 (by omega)
    simp only [ret_bind, ret_if, ret_get, ret_set, ret_app, ret_mkL, ret_sli, ret_wr, ret_wq, ret_some, vq_l, vq_r, Int.toNat_natCast, if_true, if_false, obs, decide_false, decide_true, Bool.false_eq_true, Bool.not_true, Bool.not_false, not_true_eq_false, not_false_eq_true, true_implies, false_implies, reduceCtorEq, true_and, and_true, false_and, or_false, false_or, implies_true, e1, e5, hw]
    exact ⟨by rw [List.length_take, List.length_singleton]; omega, hkl, (tks hx).symm⟩
  · have e5 : ¬ (k : Int) < (l.length : Int) := by omega
    simp only [ret_bind, ret_if, ret_get, ret_set, ret_app, ret_mkL, ret_sli, ret_wr, ret_wq, ret_some, vq_l, vq_r, Int.toNat_natCast, if_true, if_false, obs, decide_false, decide_true, Bool.false_eq_true, Bool.not_true, Bool.not_false, not_true_eq_false, not_false_eq_true, true_implies, false_implies, reduceCtorEq, true_and, and_true, false_and, or_false, false_or, implies_true, e5]
    exact take_all (by omega)

theorem twinGraph_ok {adj : List (List Int)} (hs : Sml adj) : sparsekit_TwinGraph adj = some adj := by
  have hsl := hs.1
  refine Ret.eq ?_
  unfold sparsekit_TwinGraph sparsekit_TwinLists
  simp only [ret_bind, ret_some]
  refine ret_loop adj.length (fun k (t : List (List Int) × Int) => t.2 = k ∧ t.1 = adj.take k) ⟨rfl, by simp⟩ ?_
  rintro k ⟨s, i⟩ hk ⟨rfl, hs'⟩
  simp only at hs'
  subst hs'
  unfold sparsekit_TwinLists_l1
  by_cases hkl : k < adj.length
  · obtain ⟨x, hx⟩ : ∃ x, adj[k]? = some x := ⟨adj[k], by simp [hkl]⟩
    have e1 : getI adj (k : Int) = some x := hx
    have e2 := twinInts_ok (hs.2 x (mem_get hx))
    have e5 : (k : Int) < (adj.length : Int) := by omega
    have hw : wa .i64 (k : Int) 1 = ((k + 1 : Nat) : Int) := wa1 (by omega)
    have := hs.1
    simp only [ret_bind, ret_if, ret_get, ret_set, ret_app, ret_mkL, ret_sli, ret_wr, ret_wq, ret_some, vq_l, vq_r, Int.toNat_natCast, if_true, if_false, obs, decide_false, decide_true, Bool.false_eq_true, Bool.not_true, Bool.not_false, not_true_eq_false, not_false_eq_true, true_implies, false_implies, reduceCtorEq, true_and, and_true, false_and, or_false, false_or, implies_true, e1, e2, e5, hw]
    exact ⟨by rw [List.length_take, List.length_singleton]; omega, hkl, (tks hx).symm⟩
  · have e5 : ¬ (k : Int) < (adj.length : Int) := by omega
    simp only [ret_bind, ret_if, ret_get, ret_set, ret_app, ret_mkL, ret_sli, ret_wr, ret_wq, ret_some, vq_l, vq_r, Int.toNat_natCast, if_true, if_false, obs, decide_false, decide_true, Bool.false_eq_true, Bool.not_true, Bool.not_false, not_true_eq_false, not_false_eq_true, true_implies, false_implies, reduceCtorEq, true_and, and_true, false_and, or_false, false_or, implies_true, e5]
    exact take_all (by omega)

theorem small_ok {adj : List (List Int)} : Ret (sparselaw19_small adj) (fun b => b = true → Sml adj) := by
  unfold sparselaw19_small
  by_cases h : ((decide ((12 : Int) < (adj.length : Int)) && decide ((adj.length : Int) ≤ 200)) || decide ((400 : Int) < (adj.length : Int))) = true
  · rw [if_pos h, ret_some]; exact fun h => by cases h
  · rw [if_neg h]
    simp only [Bool.or_eq_true, Bool.and_eq_true, decide_eq_true_eq, not_or, not_and] at h
    simp only [ret_bind]
    refine ret_call (P := fun o => o = .inl () → Sml adj) ?_ ?_
    · refine ret_loop adj.length (fun k (t : Int) => t = k ∧ ∀ l, l ∈ adj.take k → l.length ≤ 20) ⟨rfl, by simp⟩ ?_
      rintro k _ hk ⟨rfl, hI⟩
      unfold sparselaw19_small_l3
      by_cases hkl : k < adj.length
      · obtain ⟨x, hx⟩ : ∃ x, adj[k]? = some x := ⟨adj[k], by simp [hkl]⟩
        have e1 : getI adj (k : Int) = some x := hx
        have e5 : (k : Int) < (adj.length : Int) := by omega
        have hw : wa .i64 (k : Int) 1 = ((k + 1 : Nat) : Int) := wa1 (by omega)
        by_cases hc : (20 : Int) < (x.length : Int)
        · simp only [ret_bind, ret_if, ret_get, ret_set, ret_app, ret_mkL, ret_sli, ret_wr, ret_wq, ret_some, vq_l, vq_r, Int.toNat_natCast, if_true, if_false, obs, decide_false, decide_true, Bool.false_eq_true, Bool.not_true, Bool.not_false, not_true_eq_false, not_false_eq_true, true_implies, false_implies, reduceCtorEq, true_and, and_true, false_and, or_false, false_or, implies_true, e1, e5, hc]
        · simp only [ret_bind, ret_if, ret_get, ret_set, ret_app, ret_mkL, ret_sli, ret_wr, ret_wq, ret_some, vq_l, vq_r, Int.toNat_natCast, if_true, if_false, obs, decide_false, decide_true, Bool.false_eq_true, Bool.not_true, Bool.not_false, not_true_eq_false, not_false_eq_true, true_implies, false_implies, reduceCtorEq, true_and, and_true, false_and, or_false, false_or, implies_true, e1, e5, hc, hw]
          refine ⟨hkl, fun l hl => ?_⟩
          rw [mts hx] at hl
          rcases hl with hl | rfl
          · exact hI l hl
          · omega
      · have e5 : ¬ (k : Int) < (adj.length : Int) := by omega
        simp only [ret_bind, ret_if, ret_get, ret_set, ret_app, ret_mkL, ret_sli, ret_wr, ret_wq, ret_some, vq_l, vq_r, Int.toNat_natCast, if_true, if_false, obs, decide_false, decide_true, Bool.false_eq_true, Bool.not_true, Bool.not_false, not_true_eq_false, not_false_eq_true, true_implies, false_implies, reduceCtorEq, true_and, and_true, false_and, or_false, false_or, implies_true, e5]
        rw [take_all (by omega)] at hI
        exact ⟨by omega, fun l hl => by have := hI l hl; omega⟩
    · rintro o ho
      cases o with
      | inl u => simp only [ret_some]; exact fun _ => ho rfl
      | inr u => simp only [ret_some]; exact fun h => by cases h

theorem graph_same {g : List (List Int)} (h : Sml g) : sparsekit_Graph g g = some true := by
  unfold sparsekit_Graph
  rw [klists_ok h.1 h.2]; simp

theorem etreeAny_true (x1 : List (List Int)) (x3 x4 : Int) (x5 x7 x9 : List Int) : sparselaw19_EtreeAny x1 x3 x4 x5 x7 x9 = some true := by
  unfold sparselaw19_EtreeAny
  obtain ⟨b, hb, hs⟩ := small_ok (adj := x1)
  rw [bindS hb]
  split
  · rw [awake19]; rfl
  · rename_i hc
    simp only [Bool.or_eq_true, decide_eq_true_eq, not_or, Bool.not_eq_true', Bool.not_eq_false] at hc
    have hS := hs (by simpa using hc.1.1.1.1.1)
    obtain ⟨p, e, p1, p2, p3⟩ := pars_same hS
    obtain ⟨q, f, q1, q2, q3⟩ := cols_same (x1 := x3) (x2 := x4) (x3 := x5) (x5 := x7) (x7 := x9) (by omega) (by omega) (by omega)
    rw [bindS (twinGraph_ok hS), bindS p1, bindS p2, bindS q1, bindS q2, bindS (kints_ok (by simp only; omega)), kints_ok (by simp only; omega), graph_same hS, awake19]
    simp
end Pu
