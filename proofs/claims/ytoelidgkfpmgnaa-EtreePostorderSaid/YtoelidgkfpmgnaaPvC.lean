/- Elimination in any order; the degrees; their sum. -/
import Derived.Test.YtoelidgkfpmgnaaPvB
import Derived.Test.YtoelidgkfpmgnaaM6
set_option linter.unusedSimpArgs false
set_option linter.unusedVariables false
namespace Pv
open Pl Sx Go M Vc

/-- who is gone -/
def Gd (g : List Bool) (n : Nat) (D : Nat → Prop) : Prop := g.length = n ∧ ∀ j, j < n → ∃ b : Bool, g[j]? = some b ∧ (b = true ↔ D j)
def sel (P : Nat → Bool) (m : Nat) : List Int := ((List.range m).filter P).map fun (i : Nat) => (i : Int)
theorem sel_succ (P : Nat → Bool) (m : Nat) : sel P (m + 1) = sel P m ++ (if P m = true then [(m : Int)] else []) := by
  unfold sel
  rw [List.range_succ, List.filter_append, List.map_append]
  congr 1
  by_cases h : P m = true
  · simp [h]
  · simp [h]
theorem sel_len (P : Nat → Bool) (m : Nat) : (sel P m).length ≤ m := by
  unfold sel
  rw [List.length_map]
  have := List.length_filter_le P (List.range m)
  simpa using this
theorem sel_mem {P : Nat → Bool} {m : Nat} {x : Int} : x ∈ sel P m ↔ 0 ≤ x ∧ x.toNat < m ∧ P x.toNat = true := by
  unfold sel
  simp only [List.mem_map, List.mem_filter, List.mem_range]
  constructor
  · rintro ⟨a, ⟨h1, h2⟩, rfl⟩
    exact ⟨by omega, by simpa using h1, by simpa using h2⟩
  · rintro ⟨h1, h2, h3⟩
    exact ⟨x.toNat, ⟨h2, h3⟩, by omega⟩
theorem sel_asc (P : Nat → Bool) (m : Nat) : (sel P m).Pairwise (· < ·) := by
  unfold sel
  rw [List.pairwise_map]
  refine List.Pairwise.imp ?_ ((List.pairwise_lt_range (n := m)).sublist List.filter_sublist)
  intro a b h; omega

theorem neighG {T : List (List Bool)} {n : Nat} {R : Nat → Nat → Prop} {g : List Bool} {D : Nat → Prop} (hT : Ts T n R) (hg : Gd g n D) {v : Nat} (hv : v < n) (hn : n ≤ 1000) :
    ∃ P : Nat → Bool, (∀ j, j < n → (P j = true ↔ R v j ∧ ¬ D j)) ∧ sparseref16_Elimination_Neighbours T g (v : Int) = some (sel P n) := by
  obtain ⟨b, h1, h2⟩ := hT
  obtain ⟨r, g1, _, _, g3⟩ := h1.get hv
  have hTl := h1.1
  refine ⟨fun j => b v j && !(g[j]?.getD true), fun j hj => ?_, ?_⟩
  · obtain ⟨z, hz, hz2⟩ := hg.2 j hj
    simp only [hz, Option.getD_some, Bool.and_eq_true, Bool.not_eq_true']
    rw [h2 v j hv hj, ← hz2]
    simp
  · refine Ret.eq ?_
    unfold sparseref16_Elimination_Neighbours
    simp only [ret_bind, ret_some]
    refine ret_loop n (fun k (t : List Int × Int) => t.2 = k ∧ t.1 = sel (fun j => b v j && !(g[j]?.getD true)) k) ⟨rfl, rfl⟩ ?_
    rintro k ⟨s, i⟩ hk ⟨rfl, hs⟩
    simp only at hs
    subst hs
    unfold sparseref16_Elimination_Neighbours_l5 sparseref16_Elimination_Neighbours_j7
    by_cases hkn : k < n
    · obtain ⟨z, hz, hz2⟩ := hg.2 k hkn
      have e1 : getI g (k : Int) = some z := hz
      have e2 := g3 k hkn
      have e5 : (k : Int) < (T.length : Int) := by omega
      have hw : wa .i64 (k : Int) 1 = ((k + 1 : Nat) : Int) := wa1 (by omega)
      have hl := sel_len (fun j => b v j && !(g[j]?.getD true)) k
      by_cases hb : b v k = true
      · cases z with
        | true =>
          simp only [ret_bind, ret_if, ret_get, ret_set, ret_app, ret_mkL, ret_sli, ret_wr, ret_wq, ret_some, vq_l, vq_r, Int.toNat_natCast, if_true, if_false, obs, decide_false, decide_true, Bool.false_eq_true, Bool.not_true, Bool.not_false, not_true_eq_false, not_false_eq_true, true_implies, false_implies, reduceCtorEq, true_and, and_true, false_and, or_false, false_or, implies_true, g1, e1, e2, e5, hw, hb]
          refine ⟨hkn, ?_⟩
          rw [sel_succ, if_neg (by rw [hz]; simp), List.append_nil]
        | false =>
          simp only [ret_bind, ret_if, ret_get, ret_set, ret_app, ret_mkL, ret_sli, ret_wr, ret_wq, ret_some, vq_l, vq_r, Int.toNat_natCast, if_true, if_false, obs, decide_false, decide_true, Bool.false_eq_true, Bool.not_true, Bool.not_false, not_true_eq_false, not_false_eq_true, true_implies, false_implies, reduceCtorEq, true_and, and_true, false_and, or_false, false_or, implies_true, g1, e1, e2, e5, hw, hb]
          refine ⟨by rw [List.length_singleton]; omega, hkn, ?_⟩
          rw [sel_succ, if_pos (by rw [hz, hb]; simp)]
      · simp only [ret_bind, ret_if, ret_get, ret_set, ret_app, ret_mkL, ret_sli, ret_wr, ret_wq, ret_some, vq_l, vq_r, Int.toNat_natCast, if_true, if_false, obs, decide_false, decide_true, Bool.false_eq_true, Bool.not_true, Bool.not_false, not_true_eq_false, not_false_eq_true, true_implies, false_implies, reduceCtorEq, true_and, and_true, false_and, or_false, false_or, implies_true, g1, e1, e2, e5, hw, hb]
        refine ⟨hkn, ?_⟩
        rw [sel_succ, if_neg (by rw [Bool.and_eq_true]; exact fun h => hb h.1), List.append_nil]
    · have e5 : ¬ (k : Int) < (T.length : Int) := by omega
      simp only [ret_bind, ret_if, ret_get, ret_set, ret_app, ret_mkL, ret_sli, ret_wr, ret_wq, ret_some, vq_l, vq_r, Int.toNat_natCast, if_true, if_false, obs, decide_false, decide_true, Bool.false_eq_true, Bool.not_true, Bool.not_false, not_true_eq_false, not_false_eq_true, true_implies, false_implies, reduceCtorEq, true_and, and_true, false_and, or_false, false_or, implies_true, e5]
      rw [show k = n by omega]

theorem elimG {T : List (List Bool)} {n : Nat} {R : Nat → Nat → Prop} {g : List Bool} {D : Nat → Prop} (hT : Ts T n R) (hg : Gd g n D) {v : Nat} (hv : v < n) (hn : n ≤ 1000) :
    ∃ T' g', sparseref16_Elimination_Eliminate T g (v : Int) = some (T', g') ∧ Gd g' n (fun j => j = v ∨ D j) ∧ Ts T' n (fun i j => R i j ∨ (i ≠ j ∧ (R v i ∧ ¬ D i) ∧ (R v j ∧ ¬ D j))) := by
  obtain ⟨P, hP, h1⟩ := neighG hT hg hv hn
  have h2 := sel_asc P n
  have h3 := sel_len P n
  have h4 := fun x => sel_mem (P := P) (m := n) (x := x)
  generalize sel P n = L at h1 h2 h3 h4
  unfold sparseref16_Elimination_Eliminate
  rw [bindS h1]
  obtain ⟨o, k1, k2⟩ := forG (step := sparseref16_Elimination_Eliminate_l9 L) (fun p (s : List (List Bool)) => (s, (p : Int))) L.length (by omega)
    (fun p s => Ts s n (fun i j => R i j ∨ (i ≠ j ∧ (i : Int) ∈ L.take p ∧ (j : Int) ∈ L))) (fun o => Ts o n (fun i j => R i j ∨ (i ≠ j ∧ (i : Int) ∈ L ∧ (j : Int) ∈ L))) (s0 := T) (hT.congr fun i j _ _ => by simp) (by
      intro p s hp hI
      have hr := (h4 _).1 (List.getElem_mem hp)
      obtain ⟨o, k1, k2⟩ := forG (step := sparseref16_Elimination_Eliminate_l12 L (p : Int)) (fun q (s : List (List Bool)) => (s, (q : Int))) L.length (by omega)
        (fun q s => Ts s n (fun i j => R i j ∨ (i ≠ j ∧ (i : Int) ∈ L.take p ∧ (j : Int) ∈ L) ∨ (i ≠ j ∧ (i : Int) = L[p] ∧ (j : Int) ∈ L.take q)))
        (fun o => Ts o n (fun i j => R i j ∨ (i ≠ j ∧ (i : Int) ∈ L.take (p + 1) ∧ (j : Int) ∈ L))) (s0 := s) (hI.congr fun i j _ _ => by simp) (by
          intro q s hq hI
          have hrq := (h4 _).1 (List.getElem_mem hq)
          unfold sparseref16_Elimination_Eliminate_l12
          simp only
          rw [if_pos (by omega)]
          unfold sparseref16_Elimination_Eliminate_j13
          by_cases hpq : p = q
          · subst hpq
            rw [if_pos rfl, wa1 (by omega)]
            refine .inl ⟨s, rfl, hI.congr fun i j hi hj => ?_⟩
            rw [take_succ' hq, List.mem_append, List.mem_singleton]
            constructor
            · rintro (h | h | ⟨h5, h6, h7⟩)
              · exact .inl h
              · exact .inr (.inl h)
              · exact .inr (.inr ⟨h5, h6, .inl h7⟩)
            · rintro (h | h | ⟨h5, h6, h7 | h7⟩)
              · exact .inl h
              · exact .inr (.inl h)
              · exact .inr (.inr ⟨h5, h6, h7⟩)
              · omega
          · have hne : L[p] ≠ L[q] := by
              rcases Nat.lt_or_gt_of_ne hpq with h5 | h5
              · have := asc_get h2 hq h5; omega
              · have := asc_get h2 hp h5; omega
            obtain ⟨r, hr1, hr2⟩ := hI.row hr.2.1
            have hgr : getI s L[p] = some r := getI_of hr.1 hr1
            obtain ⟨b, hb1, _⟩ := id hI
            rw [if_neg (by omega), bindS (getI_lt hp), bindS hgr, bindS (getI_lt hq), bindS (setI_of hrq.1 (by omega)), bindS (setI_of hr.1 (by rw [hb1.1]; exact hr.2.1)), wa1 (by omega)]
            refine .inl ⟨_, rfl, (hI.set hr.2.1 hr1).congr fun i j hi hj => ?_⟩
            rw [take_succ' hq, List.mem_append, List.mem_singleton]
            constructor
            · rintro (⟨h5, h6⟩ | h | h | ⟨h5, h6, h7⟩)
              · exact .inr (.inr ⟨by omega, by omega, .inr (by omega)⟩)
              · exact .inl h
              · exact .inr (.inl h)
              · exact .inr (.inr ⟨h5, h6, .inl h7⟩)
            · rintro (h | h | ⟨h5, h6, h7 | h7⟩)
              · exact .inr (.inl h)
              · exact .inr (.inr (.inl h))
              · exact .inr (.inr (.inr ⟨h5, h6, h7⟩))
              · exact .inl ⟨by omega, by omega⟩) (by
          intro s hI
          unfold sparseref16_Elimination_Eliminate_l12
          simp only
          rw [if_neg (by omega)]
          refine ⟨_, rfl, hI.congr fun i j hi hj => ?_⟩
          rw [take_succ' hp, List.mem_append, List.mem_singleton, List.take_of_length_le (Nat.le_refl _)]
          constructor
          · rintro (h | ⟨h5, h6, h7⟩ | ⟨h5, h6, h7⟩)
            · exact .inl h
            · exact .inr ⟨h5, .inl h6, h7⟩
            · exact .inr ⟨h5, .inr h6, h7⟩
          · rintro (h | ⟨h5, h6 | h6, h7⟩)
            · exact .inl h
            · exact .inr (.inl ⟨h5, h6, h7⟩)
            · exact .inr (.inr ⟨h5, h6, h7⟩))
      have k1' : loop (sparseref16_Elimination_Eliminate_l12 L (p : Int)) (s, 0) = some o := k1
      unfold sparseref16_Elimination_Eliminate_l9
      simp only
      rw [if_pos (by omega), bindS k1', wa1 (by omega)]
      exact .inl ⟨_, rfl, k2⟩) (by
      intro s hI
      unfold sparseref16_Elimination_Eliminate_l9
      simp only
      rw [if_neg (by omega)]
      refine ⟨_, rfl, hI.congr fun i j hi hj => ?_⟩
      rw [List.take_of_length_le (Nat.le_refl _)])
  have k1' : loop (sparseref16_Elimination_Eliminate_l9 L) (T, 0) = some o := k1
  rw [bindS k1', bindS (setI_lt (by rw [hg.1]; exact hv))]
  refine ⟨o, _, rfl, ⟨by simp [hg.1], fun j hj => ?_⟩, k2.congr fun i j hi hj => ?_⟩
  · rw [List.getElem?_set]
    by_cases hkj : v = j
    · rw [if_pos hkj, if_pos (by rw [hg.1]; exact hv)]
      exact ⟨true, rfl, by simp [hkj]⟩
    · rw [if_neg hkj]
      obtain ⟨z, hz, hz2⟩ := hg.2 j hj
      refine ⟨z, hz, hz2.trans ⟨fun h => .inr h, fun h => h.resolve_left (fun e => hkj e.symm)⟩⟩
  · rw [h4, h4]
    simp only [Int.toNat_natCast]
    constructor
    · rintro (h | ⟨h5, h6, h7⟩)
      · exact .inl h
      · exact .inr ⟨h5, (hP i hi).1 h6.2.2, (hP j hj).1 h7.2.2⟩
    · rintro (h | ⟨h5, h6, h7⟩)
      · exact .inl h
      · exact .inr ⟨h5, ⟨by omega, hi, (hP i hi).2 h6⟩, ⟨by omega, hj, (hP j hj).2 h7⟩⟩

open Classical in
/-- the degree of the k-th -/
noncomputable def deg (hadj : List (List Int)) (n : Nat) (A : Nat → Nat) (k : Nat) : Nat := ((List.range n).filter fun j => decide (NN hadj k (A j))).length
theorem deg_le (hadj : List (List Int)) (n : Nat) (A : Nat → Nat) (k : Nat) : deg hadj n A k ≤ n := by
  unfold deg
  have := List.length_filter_le (fun j => @decide (NN hadj k (A j)) (Classical.propDecidable _)) (List.range n)
  simpa using this

theorem degrees_ok {adj hadj : List (List Int)} {n : Nat} {O A : Nat → Nat} {o : List Int} (hG : Gr adj) (hH : Gr hadj) (hn : adj.length = n) (hnh : hadj.length = n) (hn2 : n ≤ 200) (hP : PermN o n) (hL : Lab n O A) (ho : ∀ i, i < n → o[i]? = some (O i : Int)) (hg : Rg adj hadj n O) :
    sparseref16_Degrees adj o = some ((List.range n).map fun k => (deg hadj n A k : Int), 0) := by
  subst hn
  have hlen := hP.len
  obtain ⟨T, t1, t2⟩ := table_ok hG (by omega)
  have hb : sparseref16_Begin adj = some (T, List.replicate adj.length false) := by
    unfold sparseref16_Begin
    rw [bindS t1, bindS (mkL_nat false adj.length (by omega))]
  unfold sparseref16_Degrees
  rw [bindS (rCheck_ok hG (by omega)), if_pos rfl, if_pos (by omega), bindS (perm_ok (by omega) hP), if_pos rfl, bindS hb]
  have hloop : loop (sparseref16_Degrees_l1 o) (T, List.replicate adj.length false, [], 0) = some ((List.range adj.length).map fun k => (deg hadj adj.length A k : Int)) := by
    refine Ret.eq ?_
    refine ret_loop adj.length (fun k (t : List (List Bool) × List Bool × List Int × Int) => t.2.2.2 = k ∧ Ts t.1 adj.length (fun a c => EE hadj k (A a) (A c)) ∧ Gd t.2.1 adj.length (fun a => A a < k) ∧ t.2.2.1 = (List.range k).map fun k => (deg hadj adj.length A k : Int)) ⟨rfl, ?_, ⟨by simp, fun j hj => ⟨false, by simp [hj], by simp⟩⟩, rfl⟩ ?_
    · refine t2.congr fun a c ha hc => ?_
      rw [hg _ _ (hL.al a ha) (hL.al c hc), hL.oa a ha, hL.oa c hc]
    · rintro k ⟨T, g, out, i⟩ hk ⟨rfl, hT, hD, hout⟩
      simp only at hT hD hout
      subst hout
      unfold sparseref16_Degrees_l1
      by_cases hkn : k < adj.length
      · have hOk := hL.ol k hkn
        have hAO := hL.ao k hkn
        obtain ⟨P, p1, p2⟩ := neighG hT hD hOk (by omega)
        obtain ⟨T', g', q1, q2, q3⟩ := elimG hT hD hOk (by omega)
        have e1 : getI o (k : Int) = some (O k : Int) := ho k hkn
        have e5 : (k : Int) < (o.length : Int) := by omega
        have hw : wa .i64 (k : Int) 1 = ((k + 1 : Nat) : Int) := wa1 (by omega)
        simp only [ret_bind, ret_if, ret_get, ret_set, ret_app, ret_mkL, ret_sli, ret_wr, ret_wq, ret_some, vq_l, vq_r, Int.toNat_natCast, if_true, if_false, obs, decide_false, decide_true, Bool.false_eq_true, Bool.not_true, Bool.not_false, not_true_eq_false, not_false_eq_true, true_implies, false_implies, reduceCtorEq, true_and, and_true, false_and, or_false, false_or, implies_true, e1, e5, p2, q1, hw]
        refine ⟨by rw [List.length_map, List.length_range, List.length_singleton]; omega, hkn, q3.congr fun a c ha hc => ?_, ⟨q2.1, fun j hj => ?_⟩, ?_⟩
        · simp only [hAO]
          show _ ↔ EE hadj k (A a) (A c) ∨ _
          have hne : a ≠ c ↔ A a ≠ A c := by
            constructor
            · intro h e
              have := congrArg O e
              rw [hL.oa a ha, hL.oa c hc] at this
              exact h this
            · intro h e; exact h (by rw [e])
          rw [hne]
          constructor
          · rintro (h | ⟨h1, ⟨h2, h3⟩, h4, h5⟩)
            · exact .inl h
            · exact .inr ⟨h1, by omega, by omega, h2, h4⟩
          · rintro (h | ⟨h1, h2, h3, h4, h5⟩)
            · exact .inl h
            · exact .inr ⟨h1, ⟨h4, by omega⟩, h5, by omega⟩
        · obtain ⟨z, hz, hz2⟩ := q2.2 j hj
          refine ⟨z, hz, hz2.trans ?_⟩
          constructor
          · rintro (rfl | h)
            · omega
            · omega
          · intro h
            by_cases hjk : A j = k
            · left; rw [← hjk, hL.oa j hj]
            · right; omega
        · rw [List.range_succ, List.map_append]
          congr 1
          simp only [List.map_cons, List.map_nil]
          congr 2
          unfold sel deg
          rw [List.length_map]
          congr 1
          refine List.filter_congr fun j hj => ?_
          have hj' : j < adj.length := by simpa using hj
          have hp := p1 j hj'
          simp only [hAO] at hp
          rw [Bool.eq_iff_iff, hp, @decide_eq_true_iff _ (Classical.propDecidable _)]
          constructor
          · rintro ⟨h1, h2⟩
            refine ⟨h1, ?_⟩
            by_cases hjk : A j = k
            · rw [hjk] at h1; exact absurd h1 (EE.irr hH _ _)
            · omega
          · rintro ⟨h1, h2⟩
            exact ⟨h1, by omega⟩
      · have e5 : ¬ (k : Int) < (o.length : Int) := by omega
        simp only [ret_bind, ret_if, ret_get, ret_set, ret_app, ret_mkL, ret_sli, ret_wr, ret_wq, ret_some, vq_l, vq_r, Int.toNat_natCast, if_true, if_false, obs, decide_false, decide_true, Bool.false_eq_true, Bool.not_true, Bool.not_false, not_true_eq_false, not_false_eq_true, true_implies, false_implies, reduceCtorEq, true_and, and_true, false_and, or_false, false_or, implies_true, e5]
        rw [show k = adj.length by omega]
  rw [bindS hloop]

theorem sm_le {g : Nat → Nat} {b : Nat} : ∀ n, (∀ k, k < n → g k ≤ b) → sm g n ≤ n * b := by
  intro n
  induction n with
  | zero => intro _; simp [sm]
  | succ n ih =>
    intro h
    have h1 := ih fun k hk => h k (by omega)
    have h2 := h n (by omega)
    rw [sm, Nat.succ_mul]; omega

theorem fill_ok {adj hadj : List (List Int)} {n : Nat} {O A : Nat → Nat} {o : List Int} (hG : Gr adj) (hH : Gr hadj) (hn : adj.length = n) (hnh : hadj.length = n) (hn2 : n ≤ 200) (hP : PermN o n) (hL : Lab n O A) (ho : ∀ i, i < n → o[i]? = some (O i : Int)) (hg : Rg adj hadj n O) :
    sparselaw19_fill adj o = some (sm (deg hadj n A) n : Int) := by
  unfold sparselaw19_fill
  rw [bindS (degrees_ok hG hH hn hnh hn2 hP hL ho hg)]
  refine Ret.eq ?_
  simp only [ret_bind, ret_some]
  refine ret_loop n (fun k (t : Int × Int) => t.2 = k ∧ t.1 = (sm (deg hadj n A) k : Nat)) ⟨rfl, rfl⟩ ?_
  rintro k ⟨s, i⟩ hk ⟨rfl, hs⟩
  simp only at hs
  subst hs
  unfold sparselaw19_fill_l1
  by_cases hkn : k < n
  · have e1 : getI ((List.range n).map fun k => (deg hadj n A k : Int)) (k : Int) = some (deg hadj n A k : Int) := by
      show ((List.range n).map fun k => (deg hadj n A k : Int))[k]? = _
      simp [hkn]
    have e5 : (k : Int) < (((List.range n).map fun k => (deg hadj n A k : Int)).length : Int) := by simp; omega
    have hw : wa .i64 (k : Int) 1 = ((k + 1 : Nat) : Int) := wa1 (by omega)
    have hb := sm_le (g := deg hadj n A) (b := n) k (fun k _ => deg_le hadj n A k)
    have hd := deg_le hadj n A k
    have hkb : k * n ≤ 200 * 200 := Nat.mul_le_mul (by omega) hn2
    have hw2 : wa .i64 (sm (deg hadj n A) k : Int) (deg hadj n A k : Int) = ((sm (deg hadj n A) (k + 1) : Nat) : Int) := by
      rw [wa_i (by omega) (by omega), sm]; omega
    simp only [ret_bind, ret_if, ret_get, ret_set, ret_app, ret_mkL, ret_sli, ret_wr, ret_wq, ret_some, vq_l, vq_r, Int.toNat_natCast, if_true, if_false, obs, decide_false, decide_true, Bool.false_eq_true, Bool.not_true, Bool.not_false, not_true_eq_false, not_false_eq_true, true_implies, false_implies, reduceCtorEq, true_and, and_true, false_and, or_false, false_or, implies_true, e1, e5, hw, hw2]
    exact hkn
  · have e5 : ¬ (k : Int) < (((List.range n).map fun k => (deg hadj n A k : Int)).length : Int) := by simp; omega
    simp only [ret_bind, ret_if, ret_get, ret_set, ret_app, ret_mkL, ret_sli, ret_wr, ret_wq, ret_some, vq_l, vq_r, Int.toNat_natCast, if_true, if_false, obs, decide_false, decide_true, Bool.false_eq_true, Bool.not_true, Bool.not_false, not_true_eq_false, not_false_eq_true, true_implies, false_implies, reduceCtorEq, true_and, and_true, false_and, or_false, false_or, implies_true, e5]
    rw [show k = n by omega]

theorem sm_sum (g : Nat → Nat) : ∀ n, sm g n = ((List.range n).map g).sum := by
  intro n
  induction n with
  | zero => rfl
  | succ n ih => rw [sm, ih, List.range_succ, List.map_append, List.sum_append]; simp
theorem sm_perm {n : Nat} {O A : Nat → Nat} (hL : Lab n O A) {o : List Int} (hP : PermN o n) (ho : ∀ i, i < n → o[i]? = some (O i : Int)) (f : Nat → Nat) : sm (fun k => f (O k)) n = sm f n := by
  rw [sm_sum, sm_sum]
  have h1 : o = (List.range n).map fun i => (O i : Int) := by
    have hlen := hP.len
    apply List.ext_getElem?
    intro i
    by_cases hi : i < n
    · rw [ho i hi]; simp [hi]
    · rw [List.getElem?_eq_none (by omega), List.getElem?_eq_none (by simp; omega)]
  have h2 := (hP.perm.map Int.toNat).map f
  rw [h1] at h2
  simp only [List.map_map] at h2
  have h3 := h2.sum_nat
  have e1 : (f ∘ Int.toNat ∘ fun i => (O i : Int)) = fun k => f (O k) := by funext k; simp
  have e2 : (f ∘ Int.toNat ∘ fun (u : Nat) => (u : Int)) = f := by funext k; simp
  rw [e1, e2] at h3
  exact h3
end Pv
