/- The law GraphAny. -/
import Derived.Test.YtcknmegldjnjjaaPuB
import Derived.Test.YtcknmegldjnjjaaM4
set_option linter.unusedSimpArgs false
set_option linter.unusedVariables false
namespace Pu
open Pl Sx Go M Vc

theorem twinInts_ok {l : List Int} (hl : l.length ≤ 100000) : sparsekit_TwinInts l = some l := by
  refine Ret.eq ?_
  unfold sparsekit_TwinInts
  simp only [ret_bind]
  refine ret_call (P := fun o => o = l) ?_ (fun o ho => by subst ho; simp only [ret_some])
  refine ret_loop l.length (fun k (t : List Int × Int) => t.2 = k ∧ t.1 = l.take k) ⟨rfl, by simp⟩ ?_
  rintro k ⟨s, i⟩ hk ⟨rfl, hs⟩
  simp only at hs
  subst hs
  unfold sparsekit_TwinInts_l1
  by_cases hkl : k < l.length
  · obtain ⟨x, hx⟩ : ∃ x, l[k]? = some x := ⟨l[k], by simp [hkl]⟩
    have e1 : getI l (k : Int) = some x := hx
    have e5 : (k : Int) < (l.length : Int) := by omega
    have hw : wa .i64 (k : Int) 1 = ((k + 1 : Nat) : Int) := wa1 (by omega)
    simp only [ret_bind, ret_if, ret_get, ret_set, ret_app, ret_mkL, ret_sli, ret_wr, ret_wq, ret_some, vq_l, vq_r, Int.toNat_natCast, if_true, if_false, obs, decide_false, decide_true, Bool.false_eq_true, Bool.not_true, Bool.not_false, not_true_eq_false, not_false_eq_true, true_implies, false_implies, reduceCtorEq, true_and, and_true, false_and, or_false, false_or, implies_true, e1, e5, hw]
    exact ⟨by rw [List.length_take, List.length_singleton]; omega, hkl, (tks hx).symm⟩
  · have e5 : ¬ (k : Int) < (l.length : Int) := by omega
    simp only [ret_bind, ret_if, ret_get, ret_set, ret_app, ret_mkL, ret_sli, ret_wr, ret_wq, ret_some, vq_l, vq_r, Int.toNat_natCast, if_true, if_false, obs, decide_false, decide_true, Bool.false_eq_true, Bool.not_true, Bool.not_false, not_true_eq_false, not_false_eq_true, true_implies, false_implies, reduceCtorEq, true_and, and_true, false_and, or_false, false_or, implies_true, e5]
    exact take_all (by omega)

theorem twinGraph_ok {adj : List (List Int)} (hs : Sml adj) : sparsekit_TwinGraph adj = some adj := by
  have hsl := hs.1
  refine Ret.eq ?_
  unfold sparsekit_TwinGraph sparsekit_TwinLists
  simp only [ret_bind, ret_some]
  refine ret_loop adj.length (fun k (t : List (List Int) × Int) => t.2 = k ∧ t.1 = adj.take k) ⟨rfl, by simp⟩ ?_
  rintro k ⟨s, i⟩ hk ⟨rfl, hs'⟩
  simp only at hs'
  subst hs'
  unfold sparsekit_TwinLists_l1
  by_cases hkl : k < adj.length
  · obtain ⟨x, hx⟩ : ∃ x, adj[k]? = some x := ⟨adj[k], by simp [hkl]⟩
    have e1 : getI adj (k : Int) = some x := hx
    have e2 := twinInts_ok (hs.2 x (mem_get hx))
    have e5 : (k : Int) < (adj.length : Int) := by omega
    have hw : wa .i64 (k : Int) 1 = ((k + 1 : Nat) : Int) := wa1 (by omega)
    have := hs.1
    simp only [ret_bind, ret_if, ret_get, ret_set, ret_app, ret_mkL, ret_sli, ret_wr, ret_wq, ret_some, vq_l, vq_r, Int.toNat_natCast, if_true, if_false, obs, decide_false, decide_true, Bool.false_eq_true, Bool.not_true, Bool.not_false, not_true_eq_false, not_false_eq_true, true_implies, false_implies, reduceCtorEq, true_and, and_true, false_and, or_false, false_or, implies_true, e1, e2, e5, hw]
    exact ⟨by rw [List.length_take, List.length_singleton]; omega, hkl, (tks hx).symm⟩
  · have e5 : ¬ (k : Int) < (adj.length : Int) := by omega
    simp only [ret_bind, ret_if, ret_get, ret_set, ret_app, ret_mkL, ret_sli, ret_wr, ret_wq, ret_some, vq_l, vq_r, Int.toNat_natCast, if_true, if_false, obs, decide_false, decide_true, Bool.false_eq_true, Bool.not_true, Bool.not_false, not_true_eq_false, not_false_eq_true, true_implies, false_implies, reduceCtorEq, true_and, and_true, false_and, or_false, false_or, implies_true, e5]
    exact take_all (by omega)

theorem small_ok {adj : List (List Int)} : Ret (sparselaw12_small adj) (fun b => b = true → Sml adj ∧ (adj.length ≤ 200 → adj.length ≤ 12)) := by
  unfold sparselaw12_small
  by_cases h : ((decide ((12 : Int) < (adj.length : Int)) && decide ((adj.length : Int) ≤ 200)) || decide ((400 : Int) < (adj.length : Int))) = true
  · rw [if_pos h, ret_some]; exact fun h => by cases h
  · rw [if_neg h]
    simp only [Bool.or_eq_true, Bool.and_eq_true, decide_eq_true_eq, not_or, not_and] at h
    simp only [ret_bind]
    refine ret_call (P := fun o => o = .inl () → Sml adj ∧ (adj.length ≤ 200 → adj.length ≤ 12)) ?_ ?_
    · refine ret_loop adj.length (fun k (t : Int) => t = k ∧ ∀ l, l ∈ adj.take k → l.length ≤ 20) ⟨rfl, by simp⟩ ?_
      rintro k _ hk ⟨rfl, hI⟩
      unfold sparselaw12_small_l3
      by_cases hkl : k < adj.length
      · obtain ⟨x, hx⟩ : ∃ x, adj[k]? = some x := ⟨adj[k], by simp [hkl]⟩
        have e1 : getI adj (k : Int) = some x := hx
        have e5 : (k : Int) < (adj.length : Int) := by omega
        have hw : wa .i64 (k : Int) 1 = ((k + 1 : Nat) : Int) := wa1 (by omega)
        by_cases hc : (20 : Int) < (x.length : Int)
        · simp only [ret_bind, ret_if, ret_get, ret_set, ret_app, ret_mkL, ret_sli, ret_wr, ret_wq, ret_some, vq_l, vq_r, Int.toNat_natCast, if_true, if_false, obs, decide_false, decide_true, Bool.false_eq_true, Bool.not_true, Bool.not_false, not_true_eq_false, not_false_eq_true, true_implies, false_implies, reduceCtorEq, true_and, and_true, false_and, or_false, false_or, implies_true, e1, e5, hc]
        · simp only [ret_bind, ret_if, ret_get, ret_set, ret_app, ret_mkL, ret_sli, ret_wr, ret_wq, ret_some, vq_l, vq_r, Int.toNat_natCast, if_true, if_false, obs, decide_false, decide_true, Bool.false_eq_true, Bool.not_true, Bool.not_false, not_true_eq_false, not_false_eq_true, true_implies, false_implies, reduceCtorEq, true_and, and_true, false_and, or_false, false_or, implies_true, e1, e5, hc, hw]
          refine ⟨hkl, fun l hl => ?_⟩
          rw [mts hx] at hl
          rcases hl with hl | rfl
          · exact hI l hl
          · omega
      · have e5 : ¬ (k : Int) < (adj.length : Int) := by omega
        simp only [ret_bind, ret_if, ret_get, ret_set, ret_app, ret_mkL, ret_sli, ret_wr, ret_wq, ret_some, vq_l, vq_r, Int.toNat_natCast, if_true, if_false, obs, decide_false, decide_true, Bool.false_eq_true, Bool.not_true, Bool.not_false, not_true_eq_false, not_false_eq_true, true_implies, false_implies, reduceCtorEq, true_and, and_true, false_and, or_false, false_or, implies_true, e5]
        rw [take_all (by omega)] at hI
        exact ⟨⟨by omega, fun l hl => by have := hI l hl; omega⟩, fun h => by omega⟩
    · rintro o ho
      cases o with
      | inl u => simp only [ret_some]; exact fun _ => ho rfl
      | inr u => simp only [ret_some]; exact fun h => by cases h


def InR (l : List Int) (n : Nat) : Prop := ∀ x, x ∈ l → 0 ≤ x ∧ x < (n : Int)
theorem InR.snoc {l : List Int} {n : Nat} {x : Int} : InR (l ++ [x]) n ↔ InR l n ∧ 0 ≤ x ∧ x < (n : Int) := by
  unfold InR
  constructor
  · intro h
    exact ⟨fun y hy => h y (by simp [hy]), h x (by simp)⟩
  · rintro ⟨h1, h2⟩ y hy
    rw [List.mem_append, List.mem_singleton] at hy
    rcases hy with hy | rfl
    · exact h1 y hy
    · exact h2
theorem InR.take {l : List Int} {n : Nat} (h : InR l n) (k : Nat) : InR (l.take k) n := fun x hx => h x (List.mem_of_mem_take hx)

theorem contains1 {l : List Int} {adj : List (List Int)} (hl : l.length ≤ 100000) : Ret (slices_ContainsFunc_int l adj) (fun b => (b = true ∧ ¬ InR l adj.length) ∨ (b = false ∧ InR l adj.length)) := by
  unfold slices_ContainsFunc_int slices_IndexFunc_int
  simp only [ret_bind]
  refine ret_call (P := fun o => (o = .inl () ∧ InR l adj.length) ∨ (∃ x : Int, o = .inr x ∧ 0 ≤ x ∧ ¬ InR l adj.length)) ?_ ?_
  · refine ret_loop l.length (fun k (t : Int) => t = k ∧ InR (l.take k) adj.length) ⟨rfl, fun x hx => by simp at hx⟩ ?_
    rintro k _ hk ⟨rfl, hI⟩
    unfold slices_IndexFunc_int_l1 graph_Permuted_1 graph_vertex
    by_cases hkl : k < l.length
    · obtain ⟨x, hx⟩ : ∃ x, l[k]? = some x := ⟨l[k], by simp [hkl]⟩
      have e1 : getI l (k : Int) = some x := hx
      have e5 : (k : Int) < (l.length : Int) := by omega
      have hw : wa .i64 (k : Int) 1 = ((k + 1 : Nat) : Int) := wa1 (by omega)
      by_cases hr : 0 ≤ x ∧ x < (adj.length : Int)
      · have e6 : (decide (0 ≤ x) && decide (x < (adj.length : Int))) = true := by simpa using hr
        simp only [ret_bind, ret_if, ret_get, ret_set, ret_app, ret_mkL, ret_sli, ret_wr, ret_wq, ret_some, vq_l, vq_r, Int.toNat_natCast, if_true, if_false, obs, decide_false, decide_true, Bool.false_eq_true, Bool.not_true, Bool.not_false, not_true_eq_false, not_false_eq_true, true_implies, false_implies, reduceCtorEq, true_and, and_true, false_and, or_false, false_or, implies_true, e1, e5, e6, hw]
        exact ⟨hkl, by rw [tks hx, InR.snoc]; exact ⟨hI, hr⟩⟩
      · have e6 : (decide (0 ≤ x) && decide (x < (adj.length : Int))) = false := by
          rw [← Bool.not_eq_true]; simpa using hr
        simp only [ret_bind, ret_if, ret_get, ret_set, ret_app, ret_mkL, ret_sli, ret_wr, ret_wq, ret_some, vq_l, vq_r, Int.toNat_natCast, if_true, if_false, obs, decide_false, decide_true, Bool.false_eq_true, Bool.not_true, Bool.not_false, not_true_eq_false, not_false_eq_true, true_implies, false_implies, reduceCtorEq, true_and, and_true, false_and, or_false, false_or, implies_true, e1, e5, e6]
        exact ⟨(k : Int), rfl, by omega, fun h => hr (h x (mem_get hx))⟩
    · have e5 : ¬ (k : Int) < (l.length : Int) := by omega
      simp only [ret_bind, ret_if, ret_get, ret_set, ret_app, ret_mkL, ret_sli, ret_wr, ret_wq, ret_some, vq_l, vq_r, Int.toNat_natCast, if_true, if_false, obs, decide_false, decide_true, Bool.false_eq_true, Bool.not_true, Bool.not_false, not_true_eq_false, not_false_eq_true, true_implies, false_implies, reduceCtorEq, true_and, and_true, false_and, or_false, false_or, implies_true, e5]
      rw [take_all (by omega)] at hI
      exact .inl hI
  · rintro o (⟨rfl, h⟩ | ⟨x, rfl, h0, h⟩)
    · simp only [ret_some]; exact .inr ⟨by decide, h⟩
    · simp only [ret_some]; exact .inl ⟨by simpa using h0, h⟩
theorem contains2 {l : List Int} {adj : List (List Int)} (hl : l.length ≤ 100000) : Ret (slices_ContainsFunc_int_v2 l adj) (fun b => (b = true ∧ ¬ InR l adj.length) ∨ (b = false ∧ InR l adj.length)) := by
  unfold slices_ContainsFunc_int_v2 slices_IndexFunc_int_v2
  simp only [ret_bind]
  refine ret_call (P := fun o => (o = .inl () ∧ InR l adj.length) ∨ (∃ x : Int, o = .inr x ∧ 0 ≤ x ∧ ¬ InR l adj.length)) ?_ ?_
  · refine ret_loop l.length (fun k (t : Int) => t = k ∧ InR (l.take k) adj.length) ⟨rfl, fun x hx => by simp at hx⟩ ?_
    rintro k _ hk ⟨rfl, hI⟩
    unfold slices_IndexFunc_int_v2_l1 graph_Induced_1 graph_vertex
    by_cases hkl : k < l.length
    · obtain ⟨x, hx⟩ : ∃ x, l[k]? = some x := ⟨l[k], by simp [hkl]⟩
      have e1 : getI l (k : Int) = some x := hx
      have e5 : (k : Int) < (l.length : Int) := by omega
      have hw : wa .i64 (k : Int) 1 = ((k + 1 : Nat) : Int) := wa1 (by omega)
      by_cases hr : 0 ≤ x ∧ x < (adj.length : Int)
      · have e6 : (decide (0 ≤ x) && decide (x < (adj.length : Int))) = true := by simpa using hr
        simp only [ret_bind, ret_if, ret_get, ret_set, ret_app, ret_mkL, ret_sli, ret_wr, ret_wq, ret_some, vq_l, vq_r, Int.toNat_natCast, if_true, if_false, obs, decide_false, decide_true, Bool.false_eq_true, Bool.not_true, Bool.not_false, not_true_eq_false, not_false_eq_true, true_implies, false_implies, reduceCtorEq, true_and, and_true, false_and, or_false, false_or, implies_true, e1, e5, e6, hw]
        exact ⟨hkl, by rw [tks hx, InR.snoc]; exact ⟨hI, hr⟩⟩
      · have e6 : (decide (0 ≤ x) && decide (x < (adj.length : Int))) = false := by
          rw [← Bool.not_eq_true]; simpa using hr
        simp only [ret_bind, ret_if, ret_get, ret_set, ret_app, ret_mkL, ret_sli, ret_wr, ret_wq, ret_some, vq_l, vq_r, Int.toNat_natCast, if_true, if_false, obs, decide_false, decide_true, Bool.false_eq_true, Bool.not_true, Bool.not_false, not_true_eq_false, not_false_eq_true, true_implies, false_implies, reduceCtorEq, true_and, and_true, false_and, or_false, false_or, implies_true, e1, e5, e6]
        exact ⟨(k : Int), rfl, by omega, fun h => hr (h x (mem_get hx))⟩
    · have e5 : ¬ (k : Int) < (l.length : Int) := by omega
      simp only [ret_bind, ret_if, ret_get, ret_set, ret_app, ret_mkL, ret_sli, ret_wr, ret_wq, ret_some, vq_l, vq_r, Int.toNat_natCast, if_true, if_false, obs, decide_false, decide_true, Bool.false_eq_true, Bool.not_true, Bool.not_false, not_true_eq_false, not_false_eq_true, true_implies, false_implies, reduceCtorEq, true_and, and_true, false_and, or_false, false_or, implies_true, e5]
      rw [take_all (by omega)] at hI
      exact .inl hI
  · rintro o (⟨rfl, h⟩ | ⟨x, rfl, h0, h⟩)
    · simp only [ret_some]; exact .inr ⟨by decide, h⟩
    · simp only [ret_some]; exact .inl ⟨by simpa using h0, h⟩

theorem rrange_p {l : List Int} {n : Nat} (hl : l.length ≤ 100000) : Ret (sparseref09_Range l (n : Int)) (fun b => (b = true ∧ InR l n) ∨ (b = false ∧ ¬ InR l n)) := by
  unfold sparseref09_Range
  simp only [ret_bind]
  refine ret_call (P := fun o => (o = .inl () ∧ InR l n) ∨ (o = .inr () ∧ ¬ InR l n)) ?_ ?_
  · refine ret_loop l.length (fun k (t : Int) => t = k ∧ InR (l.take k) n) ⟨rfl, fun x hx => by simp at hx⟩ ?_
    rintro k _ hk ⟨rfl, hI⟩
    unfold sparseref09_Range_l3
    by_cases hkl : k < l.length
    · obtain ⟨x, hx⟩ : ∃ x, l[k]? = some x := ⟨l[k], by simp [hkl]⟩
      have e1 : getI l (k : Int) = some x := hx
      have e5 : (k : Int) < (l.length : Int) := by omega
      have hw : wa .i64 (k : Int) 1 = ((k + 1 : Nat) : Int) := wa1 (by omega)
      by_cases h0 : x < 0
      · simp only [ret_bind, ret_if, ret_get, ret_set, ret_app, ret_mkL, ret_sli, ret_wr, ret_wq, ret_some, vq_l, vq_r, Int.toNat_natCast, if_true, if_false, obs, decide_false, decide_true, Bool.false_eq_true, Bool.not_true, Bool.not_false, not_true_eq_false, not_false_eq_true, true_implies, false_implies, reduceCtorEq, true_and, and_true, false_and, or_false, false_or, implies_true, e1, e5, h0]
        intro h; have := (h x (mem_get hx)).1; omega
      · by_cases h1 : (n : Int) ≤ x
        · simp only [ret_bind, ret_if, ret_get, ret_set, ret_app, ret_mkL, ret_sli, ret_wr, ret_wq, ret_some, vq_l, vq_r, Int.toNat_natCast, if_true, if_false, obs, decide_false, decide_true, Bool.false_eq_true, Bool.not_true, Bool.not_false, not_true_eq_false, not_false_eq_true, true_implies, false_implies, reduceCtorEq, true_and, and_true, false_and, or_false, false_or, implies_true, e1, e5, h0, h1]
          intro h; have := (h x (mem_get hx)).2; omega
        · simp only [ret_bind, ret_if, ret_get, ret_set, ret_app, ret_mkL, ret_sli, ret_wr, ret_wq, ret_some, vq_l, vq_r, Int.toNat_natCast, if_true, if_false, obs, decide_false, decide_true, Bool.false_eq_true, Bool.not_true, Bool.not_false, not_true_eq_false, not_false_eq_true, true_implies, false_implies, reduceCtorEq, true_and, and_true, false_and, or_false, false_or, implies_true, e1, e5, h0, h1, hw]
          exact ⟨hkl, by rw [tks hx, InR.snoc]; exact ⟨hI, by omega, by omega⟩⟩
    · have e5 : ¬ (k : Int) < (l.length : Int) := by omega
      simp only [ret_bind, ret_if, ret_get, ret_set, ret_app, ret_mkL, ret_sli, ret_wr, ret_wq, ret_some, vq_l, vq_r, Int.toNat_natCast, if_true, if_false, obs, decide_false, decide_true, Bool.false_eq_true, Bool.not_true, Bool.not_false, not_true_eq_false, not_false_eq_true, true_implies, false_implies, reduceCtorEq, true_and, and_true, false_and, or_false, false_or, implies_true, e5]
      rw [take_all (by omega)] at hI
      exact hI
  · rintro o (⟨rfl, h⟩ | ⟨rfl, h⟩)
    · simp only [ret_some]; exact .inl ⟨trivial, h⟩
    · simp only [ret_some]; exact .inr ⟨trivial, h⟩

theorem nd_snoc {l : List Int} {x : Int} : (l ++ [x]).Nodup ↔ l.Nodup ∧ x ∉ l := by
  rw [List.nodup_append]
  constructor
  · rintro ⟨h1, _, h2⟩
    exact ⟨h1, fun hx => h2 x hx x (by simp) rfl⟩
  · rintro ⟨h1, h2⟩
    refine ⟨h1, by simp, fun y hy z hz => ?_⟩
    rw [List.mem_singleton] at hz
    subst hz
    rintro rfl
    exact h2 hy
theorem nd_take {l : List Int} (h : l.Nodup) (k : Nat) : (l.take k).Nodup := h.sublist (List.take_sublist _ _)

theorem rtwice_p {l : List Int} (hl : l.length ≤ 100000) : Ret (sparseref09_Twice l) (fun b => b = decide (¬ l.Nodup)) := by
  unfold sparseref09_Twice
  simp only [ret_bind]
  refine ret_call (P := fun o => (o = .inl () ∧ l.Nodup) ∨ (o = .inr () ∧ ¬ l.Nodup)) ?_ ?_
  · refine ret_loop l.length (fun k (t : Int) => t = k ∧ (l.take k).Nodup) ⟨rfl, by simp⟩ ?_
    rintro k _ hk ⟨rfl, hI⟩
    unfold sparseref09_Twice_l1
    by_cases hkl : k < l.length
    · obtain ⟨x, hx⟩ : ∃ x, l[k]? = some x := ⟨l[k], by simp [hkl]⟩
      have e1 : getI l (k : Int) = some x := hx
      have e5 : (k : Int) < (l.length : Int) := by omega
      have hw : wa .i64 (k : Int) 1 = ((k + 1 : Nat) : Int) := wa1 (by omega)
      have hz : (0 : Int).toNat = 0 := rfl
      have e2 := kin_e (l := l.take k) (v := x) (by rw [List.length_take]; omega)
      by_cases hm : x ∈ l.take k
      · simp only [ret_bind, ret_if, ret_get, ret_set, ret_app, ret_mkL, ret_sli, ret_wr, ret_wq, ret_some, vq_l, vq_r, Int.toNat_natCast, if_true, if_false, obs, decide_false, decide_true, Bool.false_eq_true, Bool.not_true, Bool.not_false, not_true_eq_false, not_false_eq_true, true_implies, false_implies, reduceCtorEq, true_and, and_true, false_and, or_false, false_or, implies_true, e1, e2, e5, hz, List.drop_zero, hm]
        refine ⟨by omega, by omega, by omega, fun h => ?_⟩
        have := nd_take h (k + 1)
        rw [tks hx, nd_snoc] at this
        exact this.2 hm
      · simp only [ret_bind, ret_if, ret_get, ret_set, ret_app, ret_mkL, ret_sli, ret_wr, ret_wq, ret_some, vq_l, vq_r, Int.toNat_natCast, if_true, if_false, obs, decide_false, decide_true, Bool.false_eq_true, Bool.not_true, Bool.not_false, not_true_eq_false, not_false_eq_true, true_implies, false_implies, reduceCtorEq, true_and, and_true, false_and, or_false, false_or, implies_true, e1, e2, e5, hz, List.drop_zero, hm, hw]
        refine ⟨by omega, by omega, by omega, hkl, ?_⟩
        rw [tks hx, nd_snoc]
        exact ⟨hI, hm⟩
    · have e5 : ¬ (k : Int) < (l.length : Int) := by omega
      simp only [ret_bind, ret_if, ret_get, ret_set, ret_app, ret_mkL, ret_sli, ret_wr, ret_wq, ret_some, vq_l, vq_r, Int.toNat_natCast, if_true, if_false, obs, decide_false, decide_true, Bool.false_eq_true, Bool.not_true, Bool.not_false, not_true_eq_false, not_false_eq_true, true_implies, false_implies, reduceCtorEq, true_and, and_true, false_and, or_false, false_or, implies_true, e5]
      rw [take_all (by omega)] at hI
      exact hI
  · rintro o (⟨rfl, h⟩ | ⟨rfl, h⟩)
    · simp only [ret_some]; exact (decide_eq_false (fun hh => hh h)).symm
    · simp only [ret_some]; exact (decide_eq_true h).symm

theorem perm_p {l : List Int} {n : Nat} (hn : n ≤ 100000) (hl : l.length = n) : Ret (sparsekit_Perm l (n : Int)) (fun b => (b = true ∧ InR l n ∧ l.Nodup) ∨ (b = false ∧ ¬ (InR l n ∧ l.Nodup))) := by
  unfold sparsekit_Perm
  rw [if_pos (by omega)]
  simp only [ret_bind, ret_mkL, Int.toNat_natCast]
  refine ⟨by omega, by omega, ?_⟩
  refine ret_call (P := fun o => (o = .inl () ∧ InR l n ∧ l.Nodup) ∨ (o = .inr () ∧ ¬ (InR l n ∧ l.Nodup))) ?_ ?_
  · refine ret_loop n (fun k (t : List Bool × Int) => t.2 = k ∧ t.1.length = n ∧ (InR (l.take k) n ∧ (l.take k).Nodup) ∧ ∀ u : Nat, u < n → t.1[u]? = some (decide ((u : Int) ∈ l.take k))) ⟨rfl, by simp, ⟨fun x hx => by simp at hx, by simp⟩, fun u hu => by simp [hu]⟩ ?_
    rintro k ⟨s, i⟩ hk ⟨rfl, hsl, ⟨hI, hN⟩, hS⟩
    simp only at hsl hS
    unfold sparsekit_Perm_l5
    by_cases hkn : k < n
    · obtain ⟨x, hx⟩ : ∃ x, l[k]? = some x := ⟨l[k]'(by omega), by simp [show k < l.length by omega]⟩
      have e1 : getI l (k : Int) = some x := hx
      have e5 : (k : Int) < (n : Int) := by omega
      have hw : wa .i64 (k : Int) 1 = ((k + 1 : Nat) : Int) := wa1 (by omega)
      by_cases h0 : x < 0
      · simp only [ret_bind, ret_if, ret_get, ret_set, ret_app, ret_mkL, ret_sli, ret_wr, ret_wq, ret_some, vq_l, vq_r, Int.toNat_natCast, if_true, if_false, obs, decide_false, decide_true, Bool.false_eq_true, Bool.not_true, Bool.not_false, not_true_eq_false, not_false_eq_true, true_implies, false_implies, reduceCtorEq, true_and, and_true, false_and, or_false, false_or, implies_true, e1, e5, h0]
        intro h; have := (h.1 x (mem_get hx)).1; omega
      · by_cases h1 : (n : Int) ≤ x
        · simp only [ret_bind, ret_if, ret_get, ret_set, ret_app, ret_mkL, ret_sli, ret_wr, ret_wq, ret_some, vq_l, vq_r, Int.toNat_natCast, if_true, if_false, obs, decide_false, decide_true, Bool.false_eq_true, Bool.not_true, Bool.not_false, not_true_eq_false, not_false_eq_true, true_implies, false_implies, reduceCtorEq, true_and, and_true, false_and, or_false, false_or, implies_true, e1, e5, h0, h1]
          intro h; have := (h.1 x (mem_get hx)).2; omega
        · obtain ⟨v, rfl⟩ := Int.eq_ofNat_of_zero_le (show 0 ≤ x by omega)
          have e2 : getI s (v : Int) = some (decide ((v : Int) ∈ l.take k)) := hS v (by omega)
          by_cases hm : (v : Int) ∈ l.take k
          · simp only [ret_bind, ret_if, ret_get, ret_set, ret_app, ret_mkL, ret_sli, ret_wr, ret_wq, ret_some, vq_l, vq_r, Int.toNat_natCast, if_true, if_false, obs, decide_false, decide_true, Bool.false_eq_true, Bool.not_true, Bool.not_false, not_true_eq_false, not_false_eq_true, true_implies, false_implies, reduceCtorEq, true_and, and_true, false_and, or_false, false_or, implies_true, e1, e2, e5, h0, h1, hm]
            intro h
            have := nd_take h.2 (k + 1)
            rw [tks hx, nd_snoc] at this
            exact this.2 hm
          · simp only [ret_bind, ret_if, ret_get, ret_set, ret_app, ret_mkL, ret_sli, ret_wr, ret_wq, ret_some, vq_l, vq_r, Int.toNat_natCast, if_true, if_false, obs, decide_false, decide_true, Bool.false_eq_true, Bool.not_true, Bool.not_false, not_true_eq_false, not_false_eq_true, true_implies, false_implies, reduceCtorEq, true_and, and_true, false_and, or_false, false_or, implies_true, e1, e2, e5, h0, h1, hm, hw]
            refine ⟨by omega, by omega, hkn, by simp [hsl], ⟨?_, ?_⟩, fun u hu => ?_⟩
            · rw [tks hx, InR.snoc]; exact ⟨hI, by omega, by omega⟩
            · rw [tks hx, nd_snoc]; exact ⟨hN, hm⟩
            · rw [List.getElem?_set, tks hx]
              by_cases hvu : v = u
              · subst hvu
                rw [if_pos rfl, if_pos (by omega), decide_eq_true (by simp)]
              · rw [if_neg hvu, hS u hu]
                congr 1
                rw [decide_eq_decide, List.mem_append, List.mem_singleton]
                constructor
                · exact fun h => .inl h
                · rintro (h | h)
                  · exact h
                  · omega
    · have e5 : ¬ (k : Int) < (n : Int) := by omega
      simp only [ret_bind, ret_if, ret_get, ret_set, ret_app, ret_mkL, ret_sli, ret_wr, ret_wq, ret_some, vq_l, vq_r, Int.toNat_natCast, if_true, if_false, obs, decide_false, decide_true, Bool.false_eq_true, Bool.not_true, Bool.not_false, not_true_eq_false, not_false_eq_true, true_implies, false_implies, reduceCtorEq, true_and, and_true, false_and, or_false, false_or, implies_true, e5]
      rw [take_all (by omega)] at hI hN
      exact ⟨hI, hN⟩
  · rintro o (⟨rfl, h⟩ | ⟨rfl, h⟩)
    · simp only [ret_some]; exact .inl ⟨trivial, h⟩
    · simp only [ret_some]; exact .inr ⟨trivial, h⟩

def OkG (g : List (List Int)) : Prop := g.length ≤ 100000 ∧ ∀ x, x ∈ g → x.length ≤ 100000
theorem okG_nil : OkG [] := ⟨by simp, by simp⟩
theorem lists_same {g : List (List Int)} (h : OkG g) : sparsekit_Lists g g = some true := by
  rw [klists_ok h.1 h.2]; simp
theorem graph_same {g : List (List Int)} (h : OkG g) : sparsekit_Graph g g = some true := by
  unfold sparsekit_Graph
  rw [lists_same h]; rfl
open Classical in
theorem okG_coll {n : Nat} (hn : n ≤ 1000) (R : Nat → Nat → Prop) : OkG ((List.range n).map fun v => coll (fun w => R v w) n) := by
  refine ⟨by simp; omega, fun x hx => ?_⟩
  simp only [List.mem_map] at hx
  obtain ⟨i, _, rfl⟩ := hx
  have := coll_len (tm := fun w => R i w) n
  omega

open Classical in
theorem induced_same {adj : List (List Int)} {e : Int} (h1 : graph_Check adj = some e) (h2 : sparseref12_Check adj = some e) (h3 : (e = 0 ∧ Gr adj ∧ adj.length ≤ 12) ∨ e ≠ 0) {l : List Int} (hl : l.length ≤ 20) :
    ∃ a f, graph_Induced adj l = some (a, f) ∧ sparseref12_Induced adj l = some (a, f) ∧ OkG a := by
  rcases h3 with ⟨rfl, hG, hn⟩ | he
  · obtain ⟨b, c1, c2⟩ := contains2 (l := l) (adj := adj) (by omega)
    obtain ⟨b', d1, d2⟩ := rrange_p (l := l) (n := adj.length) (by omega)
    obtain ⟨b2, f1, rfl⟩ := rtwice_p (l := l) (by omega)
    have ht := twice_e (l := l) (by omega)
    by_cases hR : InR l adj.length
    · have hb : b = false := by rcases c2 with ⟨_, h⟩ | ⟨h, _⟩; exact absurd hR h; exact h
      have hb' : b' = true := by rcases d2 with ⟨h, _⟩ | ⟨_, h⟩; exact h; exact absurd hR h
      subst hb hb'
      by_cases hN : l.Nodup
      · refine ⟨_, 0, ?_, rinduced_ok hG (by omega) (by omega) hR hN, okG_coll (by omega) _⟩
        unfold graph_Induced
        rw [bindS h1, if_pos rfl, bindS c1, if_neg (by simp), bindS ht, decide_eq_false (fun h => h hN), if_neg (by simp), bindS (induced_ok hG (by omega) (by omega) hR)]
      · refine ⟨[], 90, ?_, ?_, okG_nil⟩
        · unfold graph_Induced
          rw [bindS h1, if_pos rfl, bindS c1, if_neg (by simp), bindS ht, decide_eq_true hN, if_pos rfl]
        · unfold sparseref12_Induced
          rw [bindS h2, if_pos rfl, bindS d1, if_pos rfl, bindS f1, decide_eq_true hN, if_pos rfl]
    · have hb : b = true := by rcases c2 with ⟨h, _⟩ | ⟨_, h⟩; exact h; exact absurd h hR
      have hb' : b' = false := by rcases d2 with ⟨_, h⟩ | ⟨h, _⟩; exact absurd h hR; exact h
      subst hb hb'
      refine ⟨[], 3, ?_, ?_, okG_nil⟩
      · unfold graph_Induced
        rw [bindS h1, if_pos rfl, bindS c1, if_pos rfl]
      · unfold sparseref12_Induced
        rw [bindS h2, if_pos rfl, bindS d1, if_neg (by simp)]
  · refine ⟨[], e, ?_, ?_, okG_nil⟩
    · unfold graph_Induced; rw [bindS h1, if_neg he]
    · unfold sparseref12_Induced; rw [bindS h2, if_neg he]

open Classical in
theorem relabel_same {adj : List (List Int)} {e : Int} (h1 : graph_Check adj = some e) (h2 : sparseref12_Check adj = some e) (h3 : (e = 0 ∧ Gr adj ∧ adj.length ≤ 12) ∨ e ≠ 0) {l : List Int} (hl : l.length ≤ 20) :
    ∃ a f, graph_Relabel adj l = some (a, f) ∧ sparseref12_Relabel adj l = some (a, f) ∧ OkG a := by
  rcases h3 with ⟨rfl, hG, hn⟩ | he
  · by_cases hlen : l.length = adj.length
    · obtain ⟨b, c1, c2⟩ := contains1 (l := l) (adj := adj) (by omega)
      obtain ⟨b', d1, d2⟩ := perm_p (l := l) (n := adj.length) (by omega) hlen
      have ht := twice_e (l := l) (by omega)
      by_cases hR : InR l adj.length ∧ l.Nodup
      · have hp : Pm l adj.length := ⟨hlen, hR.2, hR.1⟩
        exact ⟨_, 0, relabel_ok hG hn hp, rrelabel_ok hG hn hp, okG_coll (by omega) _⟩
      · have hb' : b' = false := by rcases d2 with ⟨_, h⟩ | ⟨h, _⟩; exact absurd h hR; exact h
        subst hb'
        refine ⟨[], 90, ?_, ?_, okG_nil⟩
        · have hP : graph_Permuted adj l = some 90 := by
            unfold graph_Permuted
            rw [bindS h1, if_pos rfl, if_pos (by omega), bindS c1]
            rcases c2 with ⟨rfl, _⟩ | ⟨rfl, hI⟩
            · rfl
            · have hN : ¬ l.Nodup := fun h => hR ⟨hI, h⟩
              rw [if_neg (by simp), bindS ht, decide_eq_true hN]
              rfl
          unfold graph_Relabel
          rw [bindS hP, if_neg (by decide)]
        · unfold sparseref12_Relabel
          rw [bindS h2, if_pos rfl, if_pos (by omega), bindS d1, if_neg (by simp)]
    · refine ⟨[], 2, ?_, ?_, okG_nil⟩
      · have hP : graph_Permuted adj l = some 2 := by
          unfold graph_Permuted
          rw [bindS h1, if_pos rfl, if_neg (by omega)]
        unfold graph_Relabel
        rw [bindS hP, if_neg (by decide)]
      · unfold sparseref12_Relabel
        rw [bindS h2, if_pos rfl, if_neg (by omega)]
  · refine ⟨[], e, ?_, ?_, okG_nil⟩
    · have hP : graph_Permuted adj l = some e := by
        unfold graph_Permuted
        rw [bindS h1, if_neg he]
      unfold graph_Relabel; rw [bindS hP, if_neg he]
    · unfold sparseref12_Relabel; rw [bindS h2, if_neg he]

theorem comps_same {adj : List (List Int)} {e : Int} (h1 : graph_Check adj = some e) (h2 : sparseref12_Check adj = some e) (h3 : (e = 0 ∧ Gr adj ∧ adj.length ≤ 12) ∨ e ≠ 0) :
    ∃ a, graph_Components adj = some a ∧ sparseref12_Components adj = some a ∧ OkG a := by
  rcases h3 with ⟨rfl, hG, hn⟩ | he
  · obtain ⟨out, c1, hC⟩ := components_ok hG hn
    obtain ⟨out', c2, hC'⟩ := rcomponents_ok hG hn
    obtain rfl := hC.uniq hG hC'
    have hcl := hC.len
    refine ⟨out, c1, c2, by omega, fun x hx => ?_⟩
    obtain ⟨_, _, r2, _⟩ := hC.cls x hx
    have := asc_len r2.asc r2.rng
    omega
  · refine ⟨[], ?_, ?_, okG_nil⟩
    · unfold graph_Components; rw [bindS h1, if_neg he]
    · unfold sparseref12_Components; rw [bindS h2, if_neg he]

theorem levs_same {adj : List (List Int)} {e : Int} (h1 : graph_Check adj = some e) (h2 : sparseref12_Check adj = some e) (h3 : (e = 0 ∧ Gr adj ∧ adj.length ≤ 12) ∨ e ≠ 0) (v : Int) :
    ∃ a, graph_Levels adj v = some a ∧ sparseref12_Levels adj v = some a ∧ OkG a := by
  have hno : e ≠ 0 ∨ ¬ (0 ≤ v ∧ v < (adj.length : Int)) → ∃ a, graph_Levels adj v = some a ∧ sparseref12_Levels adj v = some a ∧ OkG a := by
    intro hc
    refine ⟨[], ?_, ?_, okG_nil⟩
    · unfold graph_Levels graph_vertex
      rw [bindS h1]
      by_cases he : e = 0
      · have hv := hc.resolve_left (fun h => h he)
        have hb : (decide (0 ≤ v) && decide (v < (adj.length : Int))) = false := by rw [← Bool.not_eq_true]; simpa using hv
        rw [if_pos he, obs, obs, hb]; rfl
      · rw [if_neg he, obs]; rfl
    · unfold sparseref12_Levels
      rw [bindS h2, if_pos]
      simp only [Bool.or_eq_true, Bool.not_eq_true', decide_eq_true_eq, decide_eq_false_iff_not]
      rcases hc with hc | hc
      · exact .inl (.inl hc)
      · by_cases h0 : v < 0
        · exact .inl (.inr h0)
        · exact .inr (by omega)
  rcases h3 with ⟨rfl, hG, hn⟩ | he
  · by_cases hv : 0 ≤ v ∧ v < (adj.length : Int)
    · obtain ⟨v, rfl⟩ := Int.eq_ofNat_of_zero_le hv.1
      have hvn : v < adj.length := by omega
      obtain ⟨a, lev, seen, c, a1, a2, a3, a4⟩ := levels_cls hG hn hvn
      obtain ⟨a', lev', seen', r1, r2⟩ := rLevels_ok hG hn hvn
      obtain rfl := a2.out_eq r2
      obtain ⟨p1, p2, p3, p4, p5⟩ := bf_pre a2 hvn hn
      refine ⟨a, ?_, r1, by omega, fun x hx => by have := p5 x hx; omega⟩
      unfold graph_Levels graph_vertex
      have e2 : (v : Int) < (adj.length : Int) := by omega
      have e3 : (0 : Int) ≤ (v : Int) := by omega
      simp [h1, e2, e3, a1]
    · exact hno (.inr hv)
  · exact hno (.inl he)

theorem pers_same {adj : List (List Int)} {e : Int} (h1 : graph_Check adj = some e) (h2 : sparseref12_Check adj = some e) (h3 : (e = 0 ∧ Gr adj ∧ adj.length ≤ 12) ∨ e ≠ 0) (v : Int) :
    ∃ p, graph_Peripheral adj v = some p ∧ sparseref12_Peripheral adj v = some p := by
  have hno : e ≠ 0 ∨ ¬ (0 ≤ v ∧ v < (adj.length : Int)) → ∃ p, graph_Peripheral adj v = some p ∧ sparseref12_Peripheral adj v = some p := by
    intro hc
    refine ⟨-1, ?_, ?_⟩
    · unfold graph_Peripheral graph_vertex
      rw [bindS h1]
      by_cases he : e = 0
      · have hv := hc.resolve_left (fun h => h he)
        have hb : (decide (0 ≤ v) && decide (v < (adj.length : Int))) = false := by rw [← Bool.not_eq_true]; simpa using hv
        rw [if_pos he, obs, obs, hb]; rfl
      · rw [if_neg he, obs]; rfl
    · unfold sparseref12_Peripheral
      rw [bindS h2, if_pos]
      simp only [Bool.or_eq_true, Bool.not_eq_true', decide_eq_true_eq, decide_eq_false_iff_not]
      rcases hc with hc | hc
      · exact .inl (.inl hc)
      · by_cases h0 : v < 0
        · exact .inl (.inr h0)
        · exact .inr (by omega)
  rcases h3 with ⟨rfl, hG, hn⟩ | he
  · by_cases hv : 0 ≤ v ∧ v < (adj.length : Int)
    · obtain ⟨v, rfl⟩ := Int.eq_ofNat_of_zero_le hv.1
      have hvn : v < adj.length := by omega
      obtain ⟨a, lev, seen, c, a1, a2, a3, a4⟩ := levels_cls hG hn hvn
      obtain ⟨p, p0, _⟩ := peripheral_ok hG hn hvn a1
      exact ⟨p, p0, rper_ok hG hn hvn p0⟩
    · exact hno (.inr hv)
  · exact hno (.inl he)

theorem graphAny_true (x1 : List (List Int)) (x3 : Int) (x4 : List Int) : sparselaw12_GraphAny x1 x3 x4 = some true := by
  unfold sparselaw12_GraphAny
  obtain ⟨b, hb, hs⟩ := small_ok (adj := x1)
  rw [bindS hb]
  split
  · rw [awake12]; rfl
  · rename_i hc
    simp only [Bool.or_eq_true, decide_eq_true_eq, not_or, Bool.not_eq_true', Bool.not_eq_false] at hc
    obtain ⟨hS, h12⟩ := hs (by simpa using hc.1)
    have hl : x4.length ≤ 20 := by omega
    obtain ⟨e, h1, h2, h3⟩ := gchecks hS
    have h3' : (e = 0 ∧ Gr x1 ∧ x1.length ≤ 12) ∨ e ≠ 0 := h3.imp (fun h => ⟨h.1, h.2.1, h12 h.2.2⟩) id
    obtain ⟨a, f, i1, i2, i3⟩ := induced_same h1 h2 h3' hl
    obtain ⟨a', f', r1, r2, r3⟩ := relabel_same h1 h2 h3' hl
    obtain ⟨c, c1, c2, c3⟩ := comps_same h1 h2 h3'
    obtain ⟨d, d1, d2, d3⟩ := levs_same h1 h2 h3' x3
    obtain ⟨p, p1, p2⟩ := pers_same h1 h2 h3' x3
    rw [bindS (twinGraph_ok hS), bindS i1, bindS i2, bindS r1, bindS r2, bindS h1, bindS h2, if_pos rfl, bindS c1, bindS c2, bindS (lists_same c3), obs, if_neg (by simp), bindS d1, bindS d2, bindS (lists_same d3), obs, if_neg (by simp), bindS p1, bindS p2, obs]
    rw [if_neg (by simp), bindS (graph_same i3), if_pos (by simp), bindS (graph_same r3), obs, if_pos (by simp), bindS (graph_same (g := x1) hS), obs, if_pos rfl, awake12]
    rfl
end Pu
