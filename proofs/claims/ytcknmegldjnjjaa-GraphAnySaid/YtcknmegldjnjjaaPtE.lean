/- Orders made from numbers; relabelling by the program and by the document. -/
import Derived.Test.YtcknmegldjnjjaaPtW
set_option linter.unusedSimpArgs false
set_option linter.unusedVariables false
namespace Pl
open Sx Go M Vc


theorem shuf_step {out left : List Int} {n k : Nat} {at' : Nat} (h1 : out.length = k) (h2 : left.length + k = n) (hnd : (out ++ left).Nodup) (hr : ∀ x, x ∈ out ++ left → 0 ≤ x ∧ x < (n : Int)) (hat : at' < left.length) :
    (out ++ [left[at']]).length = k + 1 ∧ (left.take at' ++ left.drop (at' + 1)).length + (k + 1) = n ∧ ((out ++ [left[at']]) ++ (left.take at' ++ left.drop (at' + 1))).Nodup ∧ ∀ x, x ∈ (out ++ [left[at']]) ++ (left.take at' ++ left.drop (at' + 1)) → 0 ≤ x ∧ x < (n : Int) := by
  have hp : ((out ++ [left[at']]) ++ (left.take at' ++ left.drop (at' + 1))).Perm (out ++ left) := by
    rw [List.append_assoc]
    refine List.Perm.append_left _ ?_
    have h3 : left = left.take at' ++ left[at'] :: left.drop (at' + 1) := by
      rw [List.getElem_cons_drop]; exact (List.take_append_drop at' left).symm
    conv => rhs; rw [h3]
    show (left[at'] :: (left.take at' ++ left.drop (at' + 1))).Perm (left.take at' ++ left[at'] :: left.drop (at' + 1))
    exact List.perm_middle.symm
  refine ⟨by simp [h1], by simp; omega, hp.nodup_iff.2 hnd, fun x hx => hr x (hp.mem_iff.1 hx)⟩

theorem shuf_first {n : Nat} (hn : n ≤ 1000) : Ret (loop (sparsekit_Shuffle_l1 (n : Int)) ([], 0)) (fun left => left = (List.range n).map Int.ofNat) := by
  refine ret_loop n (fun k (t : List Int × Int) => t.2 = k ∧ t.1 = (List.range k).map Int.ofNat) ⟨rfl, rfl⟩ ?_
  rintro k ⟨t, i⟩ hk ⟨rfl, rfl⟩
  unfold sparsekit_Shuffle_l1
  by_cases hkn : k < n
  · have hw : wa .i64 (k : Int) 1 = ((k + 1 : Nat) : Int) := wa1 (by omega)
    have e5 : (k : Int) < (n : Int) := by omega
    simp only [ret_bind, ret_if, ret_get, ret_set, ret_app, ret_mkL, ret_sli, ret_wr, ret_wq, ret_some, vq_l, vq_r, Int.toNat_natCast, if_true, if_false, obs, decide_false, decide_true, Bool.false_eq_true, Bool.not_true, Bool.not_false, not_true_eq_false, not_false_eq_true, true_implies, false_implies, reduceCtorEq, e5, hw]
    exact ⟨by rw [List.length_map, List.length_range, List.length_singleton]; omega, hkn, trivial, by rw [List.range_succ, List.map_append]; rfl⟩
  · have e5 : ¬ (k : Int) < (n : Int) := by omega
    have : k = n := by omega
    subst this
    simp only [ret_bind, ret_if, ret_get, ret_set, ret_app, ret_mkL, ret_sli, ret_wr, ret_wq, ret_some, vq_l, vq_r, Int.toNat_natCast, if_true, if_false, obs, decide_false, decide_true, Bool.false_eq_true, Bool.not_true, Bool.not_false, not_true_eq_false, not_false_eq_true, true_implies, false_implies, reduceCtorEq, e5]

def ShI (n k : Nat) (t : List Int × List Int × Int) : Prop := t.2.2 = (k : Int) ∧ t.2.1.length = k ∧ t.1.length + k = n ∧ (t.2.1 ++ t.1).Nodup ∧ ∀ x, x ∈ t.2.1 ++ t.1 → 0 ≤ x ∧ x < (n : Int)

theorem shuf_key {out left : List Int} {n k : Nat} (hn : n ≤ 1000) (h : ShI n k (left, out, (k : Int))) {at' : Nat} (hat : at' < left.length) (P : List Int → Prop) : Ret (sparsekit_Shuffle_j5 left out (k : Int) (at' : Int)) (VQ (fun t' => k < n ∧ ShI n (k + 1) t') P) := by
  obtain ⟨_, h1, h2, h3, h4⟩ := h
  simp only at h1 h2 h3 h4
  have e6 : getI left (at' : Int) = some left[at'] := getI_lt hat
  have e7 : wa .i64 (at' : Int) 1 = ((at' + 1 : Nat) : Int) := wa1 (by omega)
  have hw : wa .i64 (k : Int) 1 = ((k + 1 : Nat) : Int) := wa1 (by omega)
  obtain ⟨s1, s2, s3, s4⟩ := shuf_step h1 h2 h3 h4 hat
  have hz : (0 : Int).toNat = 0 := rfl
  unfold sparsekit_Shuffle_j5
  simp only [ret_bind, ret_app, ret_sli, ret_some, vq_l, e6, e7, hw, hz, Int.toNat_natCast, List.drop_zero, List.take_length]
  refine ⟨by rw [h1, List.length_singleton]; omega, by omega, by omega, by omega, by omega, by omega, by omega, ?_, by omega, rfl, s1, s2, s3, s4⟩
  rw [List.length_take, List.length_drop]; omega

theorem shuf_loop (l : List Int) {n : Nat} (hn : n ≤ 1000) : Ret (loop (sparsekit_Shuffle_l4 (n : Int) l) ((List.range n).map Int.ofNat, [], 0)) (fun o => Pm o n) := by
  refine ret_loop n (ShI n) ⟨rfl, rfl, by simp, ?_, fun x hx => ?_⟩ ?_
  · rw [List.nil_append, List.nodup_iff_pairwise_ne, List.pairwise_map]
    refine List.Pairwise.imp ?_ (List.nodup_range (n := n))
    intro a b hab hc; exact hab (Int.ofNat.inj hc)
  · simp at hx; obtain ⟨a, h1, h2⟩ := hx; omega
  · rintro k ⟨left, out, i⟩ hk h
    have hi : i = (k : Int) := h.1
    subst hi
    have h2 : left.length + k = n := h.2.2.1
    unfold sparsekit_Shuffle_l4
    by_cases hkn : k < n
    · have e5 : (k : Int) < (n : Int) := by omega
      simp only [ret_if, e5, true_implies, not_true_eq_false, false_implies, and_true]
      refine ⟨fun hl => ?_, fun _ => shuf_key (at' := 0) hn h (by omega) _⟩
      have hkl : k < l.length := by omega
      rw [bindS (getI_lt hkl), ret_bind]
      obtain ⟨z, p1, p2⟩ := place_ok l[k] left.length (by omega) (by omega)
      rw [ret_of p1]
      exact shuf_key hn h p2 _
    · have e5 : ¬ (k : Int) < (n : Int) := by omega
      have hl0 : left = [] := List.eq_nil_of_length_eq_zero (by omega)
      subst hl0
      simp only [ret_if, e5, false_implies, not_false_eq_true, true_implies, true_and, ret_some, vq_r]
      obtain ⟨_, h1, _, h3, h4⟩ := h
      simp only [List.append_nil] at h1 h3 h4
      exact ⟨by omega, h3, h4⟩

theorem shuffle_ok (l : List Int) {n : Nat} (hn : n ≤ 1000) : Ret (sparsekit_Shuffle l (n : Int)) (fun o => Pm o n) := by
  unfold sparsekit_Shuffle
  rw [ret_bind]
  refine ret_call (shuf_first hn) ?_
  rintro _ rfl
  rw [ret_bind]
  exact ret_call (shuf_loop l hn) (fun o ho => by rw [ret_some]; exact ho)


theorem permuted_ok {adj : List (List Int)} (hG : Gr adj) (hn : adj.length ≤ 12) {l : List Int} (h : Pm l adj.length) : graph_Permuted adj l = some 0 := by
  have hlen := h.len
  have hc : slices_ContainsFunc_int l adj = some false := by
    unfold slices_ContainsFunc_int
    have : slices_IndexFunc_int l adj = some (-1) := by
      refine Ret.eq ?_
      unfold slices_IndexFunc_int
      rw [ret_bind]
      refine ret_call (P := fun o => o = .inl ()) ?_ (by rintro _ rfl; rw [ret_some])
      refine ret_loop l.length (fun k (t : Int) => t = (k : Int)) rfl ?_
      rintro k t hk rfl
      unfold slices_IndexFunc_int_l1 graph_Permuted_1 graph_vertex
      by_cases hkl : k < l.length
      · have hx := h.rng _ (List.getElem_mem hkl)
        have e1 : getI l (k : Int) = some l[k] := getI_lt hkl
        have e5 : (k : Int) < (l.length : Int) := by omega
        have hw : wa .i64 (k : Int) 1 = ((k + 1 : Nat) : Int) := wa1 (by omega)
        have e6 : (decide (0 ≤ l[k]) && decide (l[k] < (adj.length : Int))) = true := by simp; omega
        simp only [ret_bind, ret_if, ret_get, ret_set, ret_app, ret_mkL, ret_sli, ret_wr, ret_wq, ret_some, vq_l, vq_r, Int.toNat_natCast, if_true, if_false, obs, decide_false, decide_true, Bool.false_eq_true, Bool.not_true, Bool.not_false, not_true_eq_false, not_false_eq_true, true_implies, false_implies, reduceCtorEq, e1, e5, e6, hw]
        exact ⟨by omega, trivial⟩
      · have e5 : ¬ (k : Int) < (l.length : Int) := by omega
        simp only [ret_bind, ret_if, ret_get, ret_set, ret_app, ret_mkL, ret_sli, ret_wr, ret_wq, ret_some, vq_l, vq_r, Int.toNat_natCast, if_true, if_false, obs, decide_false, decide_true, Bool.false_eq_true, Bool.not_true, Bool.not_false, not_true_eq_false, not_false_eq_true, true_implies, false_implies, reduceCtorEq, e5]
    rw [bindS this, decide_eq_false (by omega)]
  unfold graph_Permuted
  rw [bindS (graphCheck_ok hG (by omega)), if_pos rfl, if_pos (by omega), bindS hc]
  simp only [Bool.false_eq_true, if_false, Option.bind_some, twice_ok hn h]

open Classical in
theorem relabel_ok {adj : List (List Int)} (hG : Gr adj) (hn : adj.length ≤ 12) {l : List Int} (h : Pm l adj.length) : graph_Relabel adj l = some ((List.range l.length).map fun i => coll (fun j => IJ adj l i j) l.length, 0) := by
  have hlen := h.len
  unfold graph_Relabel
  rw [bindS (permuted_ok hG hn h), if_pos rfl, bindS (induced_ok hG (by omega) (by omega) h.rng)]

theorem rtable_ok {adj : List (List Int)} (hG : Gr adj) (hn : adj.length ≤ 1000) : ∃ T, sparseref12_Table adj = some T ∧ Tr T adj.length (nbp adj) := by
  have : Ret (sparseref12_Table adj) (fun T => Tr T adj.length (nbp adj)) := by
    unfold sparseref12_Table
    simp only [ret_bind, ret_some]
    refine ret_loop adj.length (fun k (t : List (List Bool) × Int) => t.2 = k ∧ t.1.length = k ∧ ∀ i, i < k → ∃ r, t.1[i]? = some r ∧ r.length = adj.length ∧ ∀ j, j < adj.length → ∃ b : Bool, r[j]? = some b ∧ (b = true ↔ nbp adj i j)) ⟨rfl, rfl, fun i h => by omega⟩ ?_
    rintro k ⟨T, i⟩ hk ⟨rfl, h1, h2⟩
    simp only at h1 h2
    unfold sparseref12_Table_l3
    by_cases hkn : k < adj.length
    · have hg : adj[k]? = some adj[k] := by simp [hkn]
      have hgI : getI adj (k : Int) = some adj[k] := getI_lt hkn
      have hgl := hG.len hg
      have hw : wa .i64 (k : Int) 1 = ((k + 1 : Nat) : Int) := wa1 (by omega)
      have e5 : (k : Int) < (adj.length : Int) := by omega
      simp only [ret_bind, ret_if, ret_get, ret_set, ret_app, ret_mkL, ret_sli, ret_wr, ret_wq, ret_some, vq_l, vq_r, Int.toNat_natCast, if_true, if_false, obs, decide_false, decide_true, Bool.false_eq_true, Bool.not_true, Bool.not_false, not_true_eq_false, not_false_eq_true, true_implies, false_implies, reduceCtorEq, e5, hw]
      refine ⟨by omega, by omega, ?_⟩
      refine ret_call (P := fun r => r.length = adj.length ∧ ∀ j, j < adj.length → ∃ b : Bool, r[j]? = some b ∧ (b = true ↔ nbp adj k j)) ?_ ?_
      · have hrng := hG.rng k adj[k]
        have hmem : ∀ j : Nat, nbp adj k j ↔ (j : Int) ∈ adj[k] := by
          intro j
          constructor
          · rintro ⟨l, g1, g2⟩
            rw [hg] at g1
            obtain rfl := Option.some.inj g1
            exact g2
          · exact fun hm => ⟨_, hg, hm⟩
        have hr : ∀ x, x ∈ adj[k] → 0 ≤ x ∧ x < adj.length := fun x hx => ⟨(hrng x hg hx).1, (hrng x hg hx).2.1⟩
        clear hrng
        generalize adj[k] = l at hgI hgl hmem hr
        refine ret_loop l.length (fun m (t : List Bool × Int) => t.2 = m ∧ t.1.length = adj.length ∧ ∀ j : Nat, j < adj.length → t.1[j]? = some (decide ((j : Int) ∈ l.take m))) ⟨rfl, by simp, fun j hj => by simp [hj]⟩ ?_
        rintro m ⟨t, i⟩ hm ⟨rfl, t1, t2⟩
        simp only at t1 t2
        unfold sparseref12_Table_l4
        by_cases hml : m < l.length
        · obtain ⟨x, hx⟩ : ∃ x, l[m]? = some x := ⟨l[m], by simp [hml]⟩
          have hxr := hr x (mem_get hx)
          have e1 : getI l (m : Int) = some x := hx
          have hw2 : wa .i64 (m : Int) 1 = ((m + 1 : Nat) : Int) := wa1 (by omega)
          have e6 : (m : Int) < (l.length : Int) := by omega
          simp only [ret_bind, ret_if, ret_get, ret_set, ret_app, ret_mkL, ret_sli, ret_wr, ret_wq, ret_some, vq_l, vq_r, Int.toNat_natCast, if_true, if_false, obs, decide_false, decide_true, Bool.false_eq_true, Bool.not_true, Bool.not_false, not_true_eq_false, not_false_eq_true, true_implies, false_implies, reduceCtorEq, hgI, e1, e6, hw2]
          refine ⟨hxr.1, by omega, hml, trivial, by simp [t1], fun j hj => ?_⟩
          rw [List.getElem?_set, t2 j hj]
          by_cases hxj : x.toNat = j
          · rw [if_pos hxj, if_pos (by omega)]
            congr 1; symm
            rw [decide_eq_true_iff, mts hx]
            exact .inr (by omega)
          · rw [if_neg hxj]
            congr 1
            rw [decide_eq_decide, mts hx]
            exact ⟨.inl, fun h => h.resolve_right (by omega)⟩
        · have e6 : ¬ (m : Int) < (l.length : Int) := by omega
          simp only [ret_bind, ret_if, ret_get, ret_set, ret_app, ret_mkL, ret_sli, ret_wr, ret_wq, ret_some, vq_l, vq_r, Int.toNat_natCast, if_true, if_false, obs, decide_false, decide_true, Bool.false_eq_true, Bool.not_true, Bool.not_false, not_true_eq_false, not_false_eq_true, true_implies, false_implies, reduceCtorEq, hgI, e6]
          exact ⟨t1, fun j hj => ⟨_, t2 j hj, by rw [decide_eq_true_iff, take_all (by omega), hmem]⟩⟩
      · rintro r ⟨r1, r2⟩
        refine ⟨by simp; omega, hkn, trivial, by simp [h1], fun i hi => ?_⟩
        by_cases hik : i = k
        · subst hik
          exact ⟨r, by rw [List.getElem?_append_right (by omega)]; simp [h1], r1, r2⟩
        · rw [List.getElem?_append_left (by omega)]
          exact h2 i (by omega)
    · have e5 : ¬ (k : Int) < (adj.length : Int) := by omega
      have : k = adj.length := by omega
      subst this
      simp only [ret_bind, ret_if, ret_get, ret_set, ret_app, ret_mkL, ret_sli, ret_wr, ret_wq, ret_some, vq_l, vq_r, Int.toNat_natCast, if_true, if_false, obs, decide_false, decide_true, Bool.false_eq_true, Bool.not_true, Bool.not_false, not_true_eq_false, not_false_eq_true, true_implies, false_implies, reduceCtorEq, e5]
      exact ⟨h1, h2⟩
  exact this

theorem rempty_ok {n : Nat} (hn : n ≤ 1000) : sparseref12_empty (n : Int) = some (List.replicate n (List.replicate n false)) := by
  refine Ret.eq ?_
  unfold sparseref12_empty
  simp only [ret_bind, ret_some]
  refine ret_loop n (fun k (t : List (List Bool) × Int) => t.2 = k ∧ t.1 = List.replicate k (List.replicate n false)) ⟨rfl, rfl⟩ ?_
  rintro k ⟨t, i⟩ hk ⟨rfl, rfl⟩
  unfold sparseref12_empty_l1
  by_cases hkn : k < n
  · have hw : wa .i64 (k : Int) 1 = ((k + 1 : Nat) : Int) := wa1 (by omega)
    have e5 : (k : Int) < (n : Int) := by omega
    simp only [ret_bind, ret_if, ret_get, ret_set, ret_app, ret_mkL, ret_sli, ret_wr, ret_wq, ret_some, vq_l, vq_r, Int.toNat_natCast, if_true, if_false, obs, decide_false, decide_true, Bool.false_eq_true, Bool.not_true, Bool.not_false, not_true_eq_false, not_false_eq_true, true_implies, false_implies, reduceCtorEq, e5, hw]
    exact ⟨by omega, by omega, by simp; omega, hkn, trivial, by rw [List.replicate_succ']⟩
  · have e5 : ¬ (k : Int) < (n : Int) := by omega
    have : k = n := by omega
    subst this
    simp only [ret_bind, ret_if, ret_get, ret_set, ret_app, ret_mkL, ret_sli, ret_wr, ret_wq, ret_some, vq_l, vq_r, Int.toNat_natCast, if_true, if_false, obs, decide_false, decide_true, Bool.false_eq_true, Bool.not_true, Bool.not_false, not_true_eq_false, not_false_eq_true, true_implies, false_implies, reduceCtorEq, e5]

theorem rrange_ok {l : List Int} {n : Nat} (hl : l.length ≤ 1000) (h : ∀ x, x ∈ l → 0 ≤ x ∧ x < (n : Int)) : sparseref09_Range l (n : Int) = some true := by
  refine Ret.eq ?_
  unfold sparseref09_Range
  rw [ret_bind]
  refine ret_call (P := fun o => o = .inl ()) ?_ (by rintro _ rfl; rw [ret_some])
  refine ret_loop l.length (fun k (t : Int) => t = (k : Int)) rfl ?_
  rintro k t hk rfl
  unfold sparseref09_Range_l3
  by_cases hkl : k < l.length
  · have hx := h _ (List.getElem_mem hkl)
    have e1 : getI l (k : Int) = some l[k] := getI_lt hkl
    have e5 : (k : Int) < (l.length : Int) := by omega
    have hw : wa .i64 (k : Int) 1 = ((k + 1 : Nat) : Int) := wa1 (by omega)
    have e6 : ¬ l[k] < 0 := by omega
    have e7 : ¬ (n : Int) ≤ l[k] := by omega
    simp only [ret_bind, ret_if, ret_get, ret_set, ret_app, ret_mkL, ret_sli, ret_wr, ret_wq, ret_some, vq_l, vq_r, Int.toNat_natCast, if_true, if_false, obs, decide_false, decide_true, Bool.false_eq_true, Bool.not_true, Bool.not_false, not_true_eq_false, not_false_eq_true, true_implies, false_implies, reduceCtorEq, e1, e5, e6, e7, hw]
    exact ⟨by omega, trivial⟩
  · have e5 : ¬ (k : Int) < (l.length : Int) := by omega
    simp only [ret_bind, ret_if, ret_get, ret_set, ret_app, ret_mkL, ret_sli, ret_wr, ret_wq, ret_some, vq_l, vq_r, Int.toNat_natCast, if_true, if_false, obs, decide_false, decide_true, Bool.false_eq_true, Bool.not_true, Bool.not_false, not_true_eq_false, not_false_eq_true, true_implies, false_implies, reduceCtorEq, e5]

theorem rtwice_ok {l : List Int} (hl : l.length ≤ 1000) (h : l.Nodup) : sparseref09_Twice l = some false := by
  refine Ret.eq ?_
  unfold sparseref09_Twice
  rw [ret_bind]
  refine ret_call (P := fun o => o = .inl ()) ?_ (by rintro _ rfl; rw [ret_some])
  refine ret_loop l.length (fun k (t : Int) => t = (k : Int)) rfl ?_
  rintro k t hk rfl
  unfold sparseref09_Twice_l1
  by_cases hkl : k < l.length
  · have hno := nodup_take h hkl
    have e1 : getI l (k : Int) = some l[k] := getI_lt hkl
    have e5 : (k : Int) < (l.length : Int) := by omega
    have hw : wa .i64 (k : Int) 1 = ((k + 1 : Nat) : Int) := wa1 (by omega)
    have hz : (0 : Int).toNat = 0 := rfl
    have e2 : ∀ {Q : Bool → Prop}, Ret (sparsekit_In (l.take k) l[k]) Q = Q false := by
      intro Q
      rw [kin_ok (by simp; omega), decide_eq_false hno]
    simp only [ret_bind, ret_if, ret_get, ret_set, ret_app, ret_mkL, ret_sli, ret_wr, ret_wq, ret_some, vq_l, vq_r, Int.toNat_natCast, if_true, if_false, obs, decide_false, decide_true, Bool.false_eq_true, Bool.not_true, Bool.not_false, not_true_eq_false, not_false_eq_true, true_implies, false_implies, reduceCtorEq, e1, e5, hw, hz, List.drop_zero, e2]
    exact ⟨by omega, by omega, by omega, trivial, hkl, trivial⟩
  · have e5 : ¬ (k : Int) < (l.length : Int) := by omega
    simp only [ret_bind, ret_if, ret_get, ret_set, ret_app, ret_mkL, ret_sli, ret_wr, ret_wq, ret_some, vq_l, vq_r, Int.toNat_natCast, if_true, if_false, obs, decide_false, decide_true, Bool.false_eq_true, Bool.not_true, Bool.not_false, not_true_eq_false, not_false_eq_true, true_implies, false_implies, reduceCtorEq, e5]

open Classical in
theorem rinduced_ok {adj : List (List Int)} (hG : Gr adj) (hn : adj.length ≤ 200) {l : List Int} (hl : l.length ≤ 200) (hr : ∀ x, x ∈ l → 0 ≤ x ∧ x < adj.length) (hnd : l.Nodup) : sparseref12_Induced adj l = some ((List.range l.length).map fun i => coll (fun j => IJ adj l i j) l.length, 0) := by
  obtain ⟨T, t1, t2⟩ := rtable_ok hG (by omega)
  refine Ret.eq ?_
  unfold sparseref12_Induced
  rw [bindS (rCheck_ok hG hn), if_pos rfl, bindS (rrange_ok (by omega) hr), if_pos rfl, bindS (rtwice_ok (by omega) hnd)]
  simp only [Bool.false_eq_true, if_false]
  rw [bindS t1, bindS (rempty_ok (by omega))]
  simp only [ret_bind]
  refine ret_call (P := fun O => Tr O l.length (IJ adj l)) ?_ ?_
  · refine ret_loop l.length (fun k (t : List (List Bool) × Int) => t.2 = k ∧ Tr t.1 l.length (fun i j => i < k ∧ IJ adj l i j)) ⟨rfl, Tr.congr (fun i j _ _ => by simp) (Tr.blank _)⟩ ?_
    rintro k ⟨O, i⟩ hk ⟨rfl, hO⟩
    simp only at hO
    unfold sparseref12_Induced_l3
    by_cases hkl : k < l.length
    · obtain ⟨x, hx⟩ : ∃ x, l[k]? = some x := ⟨l[k], by simp [hkl]⟩
      have hxr := hr x (mem_get hx)
      have e1 : getI l (k : Int) = some x := hx
      obtain ⟨u, hu⟩ := Int.eq_ofNat_of_zero_le hxr.1
      obtain ⟨rT, g1, g2, g3, g4⟩ := t2.row (i := u) (by omega)
      have hw : wa .i64 (k : Int) 1 = ((k + 1 : Nat) : Int) := wa1 (by omega)
      have e5 : (k : Int) < (l.length : Int) := by omega
      simp only [ret_bind, ret_if, ret_get, ret_set, ret_app, ret_mkL, ret_sli, ret_wr, ret_wq, ret_some, vq_l, vq_r, Int.toNat_natCast, if_true, if_false, obs, decide_false, decide_true, Bool.false_eq_true, Bool.not_true, Bool.not_false, not_true_eq_false, not_false_eq_true, true_implies, false_implies, reduceCtorEq, e5, hw]
      refine ret_call (P := fun O' => Tr O' l.length (fun i j => i < k + 1 ∧ IJ adj l i j)) ?_ (fun O' hO' => ⟨hkl, trivial, hO'⟩)
      refine ret_loop l.length (fun m (t : List (List Bool) × Int) => t.2 = m ∧ Tr t.1 l.length (fun i j => (i < k ∧ IJ adj l i j) ∨ (i = k ∧ j < m ∧ IJ adj l i j))) ⟨rfl, Tr.congr (fun i j _ _ => by simp) hO⟩ ?_
      rintro m ⟨O, i⟩ hm ⟨rfl, hO⟩
      simp only at hO
      unfold sparseref12_Induced_l4
      by_cases hml : m < l.length
      · obtain ⟨y, hy⟩ : ∃ y, l[m]? = some y := ⟨l[m], by simp [hml]⟩
        have hyr := hr y (mem_get hy)
        have e2 : getI l (m : Int) = some y := hy
        obtain ⟨v, hv⟩ := Int.eq_ofNat_of_zero_le hyr.1
        obtain ⟨b, b1, b2⟩ := g4 v (by omega)
        obtain ⟨rO, o1, o2, o3, _⟩ := hO.row hkl
        have hOl := hO.1
        have e6 : (m : Int) < (l.length : Int) := by omega
        have hw2 : wa .i64 (m : Int) 1 = ((m + 1 : Nat) : Int) := wa1 (by omega)
        have e3 : getI T x = some rT := by rw [hu]; exact g1
        have e4 : getI rT y = some b := by rw [hv]; exact b1
        have hJ : nbp adj u v ↔ IJ adj l k m := by
          constructor
          · intro h; exact ⟨x, y, hx, hy, by rw [hu, hv]; exact h⟩
          · rintro ⟨x', y', q1, q2, q3⟩
            rw [hx] at q1; rw [hy] at q2
            obtain rfl := Option.some.inj q1
            obtain rfl := Option.some.inj q2
            rw [hu, hv] at q3; exact q3
        simp only [ret_bind, ret_if, ret_get, ret_set, ret_app, ret_mkL, ret_sli, ret_wr, ret_wq, ret_some, vq_l, vq_r, Int.toNat_natCast, if_true, if_false, obs, decide_false, decide_true, Bool.false_eq_true, Bool.not_true, Bool.not_false, not_true_eq_false, not_false_eq_true, true_implies, false_implies, reduceCtorEq, e1, e2, e3, e4, e6, hw2, o1]
        refine ⟨by omega, by omega, by omega, by omega, hml, trivial, Tr.congr (fun i j _ _ => ?_) (hO.put (j := m) hkl o2 (b2.trans hJ))⟩
        constructor
        · rintro (⟨rfl, rfl, h⟩ | ⟨_, h | h⟩)
          · exact .inr ⟨rfl, by omega, h⟩
          · exact .inl h
          · exact .inr ⟨h.1, by omega, h.2.2⟩
        · rintro (h | ⟨rfl, h1, h2⟩)
          · exact .inr ⟨by omega, .inl h⟩
          · by_cases hjm : j = m
            · subst hjm; exact .inl ⟨rfl, rfl, h2⟩
            · exact .inr ⟨by omega, .inr ⟨rfl, by omega, h2⟩⟩
      · have e6 : ¬ (m : Int) < (l.length : Int) := by omega
        simp only [ret_bind, ret_if, ret_get, ret_set, ret_app, ret_mkL, ret_sli, ret_wr, ret_wq, ret_some, vq_l, vq_r, Int.toNat_natCast, if_true, if_false, obs, decide_false, decide_true, Bool.false_eq_true, Bool.not_true, Bool.not_false, not_true_eq_false, not_false_eq_true, true_implies, false_implies, reduceCtorEq, e6]
        refine Tr.congr (fun i j hi hj => ?_) hO
        constructor
        · rintro (h | ⟨rfl, h1, h2⟩)
          · exact ⟨by omega, h.2⟩
          · exact ⟨by omega, h2⟩
        · rintro ⟨h1, h2⟩
          by_cases hik : i = k
          · exact .inr ⟨hik, by omega, h2⟩
          · exact .inl ⟨by omega, h2⟩
    · have e5 : ¬ (k : Int) < (l.length : Int) := by omega
      simp only [ret_bind, ret_if, ret_get, ret_set, ret_app, ret_mkL, ret_sli, ret_wr, ret_wq, ret_some, vq_l, vq_r, Int.toNat_natCast, if_true, if_false, obs, decide_false, decide_true, Bool.false_eq_true, Bool.not_true, Bool.not_false, not_true_eq_false, not_false_eq_true, true_implies, false_implies, reduceCtorEq, e5]
      exact Tr.congr (fun i j hi hj => ⟨fun h => h.2, fun h => ⟨by omega, h⟩⟩) hO
  · intro O hO
    rw [ret_of (fromTable_ok hO.tb (by omega)), ret_some]
    congr 1
    refine List.map_congr_left fun i hi => ?_
    have hil : i < l.length := by simpa using hi
    refine asc_unique (nbr_asc _) (coll_asc _) fun x => ?_
    rw [nbr_mem, coll_mem]
    simp only [decide_eq_true_eq]
    constructor
    · rintro ⟨h1, h2, h3, h4 | h4⟩
      · exact ⟨h1, h2, h4⟩
      · exact ⟨h1, h2, h4.sym hG⟩
    · rintro ⟨h1, h2, h3⟩
      exact ⟨h1, h2, fun h => by rw [← h] at h3; exact h3.ne hG, .inl h3⟩
end Pl
