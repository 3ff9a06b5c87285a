/- Weighted graphs: what makes one valid; the program's check; weighted graphs made from numbers. -/
import Derived.Test.YthpeajepbffinaaGreatPlL
import Derived.Test.YthpeajepbffinaaGreatVcA
import Derived.Test.YthpeajepbffinaaGreatM6
set_option linter.unusedSimpArgs false
set_option linter.unusedVariables false
namespace Pd
open Pl Sx Go M Vc

/-- a permitted weight -/
def Wg (x : Int) : Prop := 1 ≤ x ∧ x ≤ 1099511627776
structure Wt (adj : List (List Int)) (vx : List Int) (ed : List (List Int)) : Prop where
 gr : Gr adj
 vl : vx.length = adj.length
 el : ed.length = adj.length
 vr : ∀ x, x ∈ vx → Wg x
 rl : ∀ (v : Nat) l e, adj[v]? = some l → ed[v]? = some e → e.length = l.length
 er : ∀ e, e ∈ ed → ∀ x, x ∈ e → Wg x
 sy : ∀ (v k : Nat) l e u x, adj[v]? = some l → ed[v]? = some e → l[k]? = some u → e[k]? = some x → ∃ l' e', ∃ k' : Nat, adj[u.toNat]? = some l' ∧ ed[u.toNat]? = some e' ∧ l'[k']? = some (v : Int) ∧ e'[k']? = some x

theorem search_at {l : List Int} (h : l.Pairwise (· < ·)) (hl : l.length < 1000000) {k : Nat} {x : Int} (hk : l[k]? = some x) : slices_BinarySearch_int l x = some ((k : Int), true) := by
 unfold slices_BinarySearch_int
 obtain ⟨hkl, hkx⟩ := List.getElem?_eq_some_iff.1 hk
 obtain ⟨o, h1, h2⟩ := whileG (step := slices_BinarySearch_int_l3 l x) (s := (0, (l.length : Int)))
   (fun s => ∃ a b : Nat, s = ((a : Int), (b : Int)) ∧ a ≤ b ∧ b ≤ l.length ∧ (∀ i, ∀ hi : i < l.length, i < a → l[i] < x) ∧ (∀ i, ∀ hi : i < l.length, b ≤ i → x ≤ l[i]))
   (fun o => ∃ a : Nat, o = (a : Int) ∧ a ≤ l.length ∧ (∀ i, ∀ hi : i < l.length, i < a → l[i] < x) ∧ (∀ i, ∀ hi : i < l.length, a ≤ i → x ≤ l[i])) (fun s => (s.2 - s.1).toNat)
   ⟨0, l.length, rfl, by omega, by omega, fun i _ h => by omega, fun i _ h => by omega⟩ (by simp only; omega) (by
   rintro s ⟨a, b, rfl, hab, hb, ha1, hb1⟩
   unfold slices_BinarySearch_int_l3
   simp only
   by_cases hc : a < b
   ·have hm : (a + b) / 2 < l.length := by omega
    rw [if_pos (by omega), mid_ok a b hc (by omega), bindS (getI_lt hm), bindS (less_ok _ _)]
    unfold slices_BinarySearch_int_j11
    by_cases hlt : l[(a + b) / 2] < x
    ·rw [if_pos (by simpa using hlt), wa1 (by omega)]
     refine .inl ⟨_, rfl, ⟨(a + b) / 2 + 1, b, rfl, by omega, hb, fun i hi hia => ?_, hb1⟩, by simp only; omega⟩
     by_cases he : i = (a + b) / 2
     ·subst he; exact hlt
     ·have := asc_get h hm (i := i) (by omega)
      omega
    ·rw [if_neg (by simpa using hlt)]
     refine .inl ⟨_, rfl, ⟨a, (a + b) / 2, rfl, by omega, by omega, ha1, fun i hi hia => ?_⟩, by simp only; omega⟩
     by_cases he : i = (a + b) / 2
     ·subst he; omega
     ·have := asc_get h hi (i := (a + b) / 2) (by omega)
      omega
   ·rw [if_neg (by omega)]
    exact .inr ⟨_, rfl, a, rfl, by omega, ha1, fun i hi hia => hb1 i hi (by omega)⟩)
 rw [bindS h1]
 obtain ⟨a, rfl, hal, ha1, ha2⟩ := h2
 have hak : a = k := by
  rcases Nat.lt_trichotomy a k with h3 | h3 | h3
  ·have h4 := ha2 a (by omega) (Nat.le_refl _)
   have h5 := asc_get h hkl h3
   omega
  ·exact h3
  ·have := ha1 k hkl h3; omega
 subst hak
 rw [if_pos (by omega), bindS (getI_lt hkl), if_pos hkx]
 simp

theorem weights_ok {l : List Int} (hl : l.length ≤ 100000) : Ret (dissect_weights l) (fun b => b = true ↔ ∀ x, x ∈ l → Wg x) := by
 unfold dissect_weights slices_ContainsFunc_int slices_IndexFunc_int
 rw [ret_bind, ret_bind, ret_bind]
 refine ret_call (P := fun o => (o = .inl () ∧ ∀ x, x ∈ l → Wg x) ∨ (∃ k : Int, 0 ≤ k ∧ o = .inr k ∧ ¬ ∀ x, x ∈ l → Wg x)) ?_ ?_
 ·refine ret_loop l.length (fun k (t : Int) => t = (k : Int) ∧ ∀ x, x ∈ l.take k → Wg x) ⟨rfl, by simp⟩ ?_
  rintro k _ hk ⟨rfl, hI⟩
  unfold slices_IndexFunc_int_l1 dissect_weights_1
  by_cases hkl : k < l.length
  ·obtain ⟨x, hx⟩ : ∃ x, l[k]? = some x := ⟨l[k], by simp [hkl]⟩
   have e1 : getI l (k : Int) = some x := hx
   have e5 : (k : Int) < (l.length : Int) := by omega
   have hw : wa .i64 (k : Int) 1 = ((k + 1 : Nat) : Int) := wa1 (by omega)
   by_cases hg : Wg x
   ·have e6 : (decide (x < 1) || decide ((1099511627776 : Int) < x)) = false := by unfold Wg at hg; simp; omega
    simp only [ret_bind, ret_if, ret_get, ret_set, ret_app, ret_mkL, ret_sli, ret_wr, ret_wq, ret_some, vq_l, vq_r, Int.toNat_natCast, if_true, if_false, obs, decide_false, decide_true, Bool.false_eq_true, Bool.not_true, Bool.not_false, not_true_eq_false, not_false_eq_true, true_implies, false_implies, reduceCtorEq, true_and, and_true, false_and, or_false, false_or, implies_true, e1, e5, e6, hw]
    exact ⟨hkl, fun y hy => by rw [mts hx] at hy; rcases hy with hy | rfl; exact hI y hy; exact hg⟩
   ·have e6 : (decide (x < 1) || decide ((1099511627776 : Int) < x)) = true := by unfold Wg at hg; simp; omega
    simp only [ret_bind, ret_if, ret_get, ret_set, ret_app, ret_mkL, ret_sli, ret_wr, ret_wq, ret_some, vq_l, vq_r, Int.toNat_natCast, if_true, if_false, obs, decide_false, decide_true, Bool.false_eq_true, Bool.not_true, Bool.not_false, not_true_eq_false, not_false_eq_true, true_implies, false_implies, reduceCtorEq, true_and, and_true, false_and, or_false, false_or, implies_true, e1, e5, e6]
    exact ⟨(k : Int), by omega, rfl, fun h => hg (h x (mem_get hx))⟩
  ·have e5 : ¬ (k : Int) < (l.length : Int) := by omega
   simp only [ret_bind, ret_if, ret_get, ret_set, ret_app, ret_mkL, ret_sli, ret_wr, ret_wq, ret_some, vq_l, vq_r, Int.toNat_natCast, if_true, if_false, obs, decide_false, decide_true, Bool.false_eq_true, Bool.not_true, Bool.not_false, not_true_eq_false, not_false_eq_true, true_implies, false_implies, reduceCtorEq, true_and, and_true, false_and, or_false, false_or, implies_true, e5]
   rw [take_all (by omega)] at hI
   exact .inl hI
 ·rintro o (⟨rfl, h⟩ | ⟨k, hk, rfl, h⟩)
  ·simp only [ret_some]
   have : decide ((0 : Int) ≤ -1) = false := by decide
   rw [this]; simp; exact h
  ·simp only [ret_some, decide_eq_true hk]
   simp only [Bool.not_true, Bool.false_eq_true, false_iff]
   exact h
theorem weights_true {l : List Int} (hl : l.length ≤ 100000) (h : ∀ x, x ∈ l → Wg x) : dissect_weights l = some true := by
 obtain ⟨b, h1, h2⟩ := weights_ok hl
 rw [h1, h2.2 h]

theorem Wt.row {adj : List (List Int)} {vx : List Int} {ed : List (List Int)} (h : Wt adj vx ed) {v : Nat} (hv : v < adj.length) : ∃ l e, adj[v]? = some l ∧ ed[v]? = some e ∧ e.length = l.length := by
 have := h.el
 obtain ⟨l, hl⟩ : ∃ l, adj[v]? = some l := ⟨adj[v], by simp [hv]⟩
 obtain ⟨e, he⟩ : ∃ e, ed[v]? = some e := ⟨ed[v]'(by omega), by simp [show v < ed.length by omega]⟩
 exact ⟨l, e, hl, he, h.rl v l e hl he⟩

theorem checkW_ok {adj : List (List Int)} {vx : List Int} {ed : List (List Int)} (h : Wt adj vx ed) (hn : adj.length ≤ 200) : dissect_CheckWeighted adj vx ed = some 0 := by
 have hvl := h.vl
 have hel := h.el
 unfold dissect_CheckWeighted
 rw [bindS (graphCheck_ok h.gr hn), if_pos rfl, if_neg (by simp; omega), bindS (weights_true (by omega) h.vr)]
 have l5 : loop (dissect_CheckWeighted_l5 adj ed) 0 = some (.inl ()) := by
  refine Ret.eq ?_
  refine ret_loop adj.length (fun k (t : Int) => t = (k : Int)) rfl ?_
  rintro k _ hk rfl
  unfold dissect_CheckWeighted_l5
  by_cases hkl : k < adj.length
  ·obtain ⟨l, e, e1, e2, e3⟩ := h.row hkl
   have e1' : getI adj (k : Int) = some l := e1
   have e2' : getI ed (k : Int) = some e := e2
   have hll := h.gr.len e1
   have e4 := weights_true (l := e) (by omega) (h.er e (mem_get e2))
   have e5 : (k : Int) < (adj.length : Int) := by omega
   have e6 : (e.length : Int) = (l.length : Int) := by omega
   have hw : wa .i64 (k : Int) 1 = ((k + 1 : Nat) : Int) := wa1 (by omega)
   simp only [ret_bind, ret_if, ret_get, ret_set, ret_app, ret_mkL, ret_sli, ret_wr, ret_wq, ret_some, vq_l, vq_r, Int.toNat_natCast, if_true, if_false, obs, decide_false, decide_true, Bool.false_eq_true, Bool.not_true, Bool.not_false, not_true_eq_false, not_false_eq_true, true_implies, false_implies, reduceCtorEq, true_and, and_true, false_and, or_false, false_or, implies_true, e1', e2', e4, e5, e6, hw]
   omega
  ·have e5 : ¬ (k : Int) < (adj.length : Int) := by omega
   simp only [ret_bind, ret_if, ret_get, ret_set, ret_app, ret_mkL, ret_sli, ret_wr, ret_wq, ret_some, vq_l, vq_r, Int.toNat_natCast, if_true, if_false, obs, decide_false, decide_true, Bool.false_eq_true, Bool.not_true, Bool.not_false, not_true_eq_false, not_false_eq_true, true_implies, false_implies, reduceCtorEq, true_and, and_true, false_and, or_false, false_or, implies_true, e5]
 have l8 : loop (dissect_CheckWeighted_l8 adj ed vx) 0 = some (.inl ()) := by
  refine Ret.eq ?_
  refine ret_loop adj.length (fun k (t : Int) => t = (k : Int)) rfl ?_
  rintro v _ hk rfl
  unfold dissect_CheckWeighted_l8
  by_cases hkl : v < adj.length
  ·obtain ⟨l, e, e1, e2, e3⟩ := h.row hkl
   have e1' : getI adj (v : Int) = some l := e1
   have e2' : getI ed (v : Int) = some e := e2
   have hll := h.gr.len e1
   have e5 : (v : Int) < (adj.length : Int) := by omega
   have hw : wa .i64 (v : Int) 1 = ((v + 1 : Nat) : Int) := wa1 (by omega)
   have inner : loop (dissect_CheckWeighted_l9 l ed (v : Int) adj vx) 0 = some (.inl ()) := by
    refine Ret.eq ?_
    refine ret_loop l.length (fun k (t : Int) => t = (k : Int)) rfl ?_
    rintro k _ hk rfl
    unfold dissect_CheckWeighted_l9
    by_cases hkl : k < l.length
    ·obtain ⟨u, hu⟩ : ∃ u, l[k]? = some u := ⟨l[k], by simp [hkl]⟩
     obtain ⟨x, hx⟩ : ∃ x, e[k]? = some x := ⟨e[k]'(by omega), by simp [show k < e.length by omega]⟩
     obtain ⟨l', e', k', f1, f2, f3, f4⟩ := h.sy v k l e u x e1 e2 hu hx
     have hur := h.gr.rng v l u e1 (mem_get hu)
     have g1 : getI l (k : Int) = some u := hu
     have g2 : getI e (k : Int) = some x := hx
     have g3 : getI adj u = some l' := getI_of hur.1 f1
     have g4 : getI ed u = some e' := getI_of hur.1 f2
     have g5 := search_at (h.gr.asc _ _ f1) (by have := h.gr.len f1; omega) f3
     have g6 : getI e' (k' : Int) = some x := f4
     have g7 : dissect_weight adj vx ed u (v : Int) = some x := by
      unfold dissect_weight
      rw [bindS g3, bindS g5, bindS g4, bindS g6]
     have e5 : (k : Int) < (l.length : Int) := by omega
     have hw : wa .i64 (k : Int) 1 = ((k + 1 : Nat) : Int) := wa1 (by omega)
     simp only [ret_bind, ret_if, ret_get, ret_set, ret_app, ret_mkL, ret_sli, ret_wr, ret_wq, ret_some, vq_l, vq_r, Int.toNat_natCast, if_true, if_false, obs, decide_false, decide_true, Bool.false_eq_true, Bool.not_true, Bool.not_false, not_true_eq_false, not_false_eq_true, true_implies, false_implies, reduceCtorEq, true_and, and_true, false_and, or_false, false_or, implies_true, g1, e2', g2, g7, e5, hw]
     omega
    ·have e5 : ¬ (k : Int) < (l.length : Int) := by omega
     simp only [ret_bind, ret_if, ret_get, ret_set, ret_app, ret_mkL, ret_sli, ret_wr, ret_wq, ret_some, vq_l, vq_r, Int.toNat_natCast, if_true, if_false, obs, decide_false, decide_true, Bool.false_eq_true, Bool.not_true, Bool.not_false, not_true_eq_false, not_false_eq_true, true_implies, false_implies, reduceCtorEq, true_and, and_true, false_and, or_false, false_or, implies_true, e5]
   simp only [ret_bind, ret_if, ret_get, ret_set, ret_app, ret_mkL, ret_sli, ret_wr, ret_wq, ret_some, vq_l, vq_r, Int.toNat_natCast, if_true, if_false, obs, decide_false, decide_true, Bool.false_eq_true, Bool.not_true, Bool.not_false, not_true_eq_false, not_false_eq_true, true_implies, false_implies, reduceCtorEq, true_and, and_true, false_and, or_false, false_or, implies_true, e1', inner, e5, hw]
   omega
  ·have e5 : ¬ (v : Int) < (adj.length : Int) := by omega
   simp only [ret_bind, ret_if, ret_get, ret_set, ret_app, ret_mkL, ret_sli, ret_wr, ret_wq, ret_some, vq_l, vq_r, Int.toNat_natCast, if_true, if_false, obs, decide_false, decide_true, Bool.false_eq_true, Bool.not_true, Bool.not_false, not_true_eq_false, not_false_eq_true, true_implies, false_implies, reduceCtorEq, true_and, and_true, false_and, or_false, false_or, implies_true, e5]
 simp only [Bool.not_true, obs, Bool.false_eq_true, if_false]
 rw [bindS l5]
 simp only
 rw [bindS l8]

/-! ### weighted graphs made from numbers -/
def atF (l : List Int) (i : Int) : Int := l[i.toNat]?.getD 0
theorem at_ok {l : List Int} {i : Int} (h : 0 ≤ i) : sparsemake_At l i = some (atF l i) := by
 obtain ⟨k, rfl⟩ := Int.eq_ofNat_of_zero_le h
 unfold sparsemake_At atF
 by_cases hk : k < l.length
 ·rw [if_pos (by omega), bindS (getI_lt hk)]
  simp [hk]
 ·rw [if_neg (by omega)]
  simp [hk]
def pwf (l : List Int) (n : Nat) (u v : Int) : Int := (sparsekit_Place (wa .i64 (atF l (wa .i64 (n : Int) (imax u v))) (wm .i64 3 (atF l (wa .i64 (n : Int) (imin u v))))) 7).getD 0
theorem pwf_comm (l : List Int) (n : Nat) (u v : Int) : pwf l n u v = pwf l n v u := by
 have h1 : imax u v = imax v u := by unfold imax; split <;> split <;> omega
 have h2 : imin u v = imin v u := by unfold imin; split <;> split <;> omega
 unfold pwf; rw [h1, h2]
theorem pwf_ok (l : List Int) (n : Nat) (u v : Int) : sparsekit_Place (wa .i64 (atF l (wa .i64 (n : Int) (imax u v))) (wm .i64 3 (atF l (wa .i64 (n : Int) (imin u v))))) 7 = some (pwf l n u v) ∧ 0 ≤ pwf l n u v ∧ pwf l n u v < 7 := by
 obtain ⟨z, h1, h2⟩ := place_ok (wa .i64 (atF l (wa .i64 (n : Int) (imax u v))) (wm .i64 3 (atF l (wa .i64 (n : Int) (imin u v))))) 7 (by omega) (by omega)
 have h1' : sparsekit_Place (wa .i64 (atF l (wa .i64 (n : Int) (imax u v))) (wm .i64 3 (atF l (wa .i64 (n : Int) (imin u v))))) 7 = some (z : Int) := h1
 unfold pwf
 rw [h1', Option.getD_some]
 exact ⟨rfl, by omega, by omega⟩

theorem row_made {adj : List (List Int)} (hG : Gr adj) {n : Nat} (hn : n ≤ 100) (hl : adj.length = n) (x4 : List Int) {v : Nat} (hv : v < n) {l : List Int} (hlv : adj[v]? = some l) :
  loop (sparsemake_Weighted_l4 adj (v : Int) x4 (n : Int)) ([], 0) = some (l.map fun u => 1 + pwf x4 n u v) := by
 have hll := hG.len hlv
 refine Ret.eq ?_
 refine ret_loop l.length (fun k (t : List Int × Int) => t.2 = k ∧ t.1 = (l.take k).map fun u => 1 + pwf x4 n u v) ⟨rfl, by simp⟩ ?_
 rintro k ⟨t, i⟩ hk ⟨rfl, rfl⟩
 unfold sparsemake_Weighted_l4
 have e1 : getI adj (v : Int) = some l := hlv
 by_cases hkl : k < l.length
 ·obtain ⟨u, hu⟩ : ∃ u, l[k]? = some u := ⟨l[k], by simp [hkl]⟩
  have hur := hG.rng v l u hlv (mem_get hu)
  have e2 : getI l (k : Int) = some u := hu
  have e5 : (k : Int) < (l.length : Int) := by omega
  have hw : wa .i64 (k : Int) 1 = ((k + 1 : Nat) : Int) := wa1 (by omega)
  have m1 : 0 ≤ imax u v ∧ imax u v < n := by unfold imax; split <;> omega
  have m2 : 0 ≤ imin u v ∧ imin u v < n := by unfold imin; split <;> omega
  have a1 := at_ok (l := x4) (i := wa .i64 (n : Int) (imax u v)) (by rw [wa_i (by omega) (by omega)]; omega)
  have a2 := at_ok (l := x4) (i := wa .i64 (n : Int) (imin u v)) (by rw [wa_i (by omega) (by omega)]; omega)
  obtain ⟨p1, p2, p3⟩ := pwf_ok x4 n u v
  have hw2 : wa .i64 1 (pwf x4 n u v) = 1 + pwf x4 n u v := wa_i (by omega) (by omega)
  simp only [ret_bind, ret_if, ret_get, ret_set, ret_app, ret_mkL, ret_sli, ret_wr, ret_wq, ret_some, vq_l, vq_r, Int.toNat_natCast, if_true, if_false, obs, decide_false, decide_true, Bool.false_eq_true, Bool.not_true, Bool.not_false, not_true_eq_false, not_false_eq_true, true_implies, false_implies, reduceCtorEq, true_and, and_true, false_and, or_false, false_or, implies_true, e1, e2, e5, a1, a2, p1, hw2, hw, List.length_map, List.length_take, List.length_singleton]
  refine ⟨by omega, hkl, ?_⟩
  rw [tks hu, List.map_append]; rfl
 ·have e5 : ¬ (k : Int) < (l.length : Int) := by omega
  simp only [ret_bind, ret_if, ret_get, ret_set, ret_app, ret_mkL, ret_sli, ret_wr, ret_wq, ret_some, vq_l, vq_r, Int.toNat_natCast, if_true, if_false, obs, decide_false, decide_true, Bool.false_eq_true, Bool.not_true, Bool.not_false, not_true_eq_false, not_false_eq_true, true_implies, false_implies, reduceCtorEq, true_and, and_true, false_and, or_false, false_or, implies_true, e1, e5]
  rw [take_all (by omega)]

theorem weighted_ok {n : Nat} (hn : n ≤ 100) (x2 x4 : List Int) (h2 : x2.length ≤ 1000000) : ∃ adj vx ed, sparsemake_Weighted (n : Int) x2 x4 = some (adj, vx, ed) ∧ Wt adj vx ed ∧ adj.length = n ∧ (∀ x, x ∈ vx → x ≤ 5) ∧ ∀ e, e ∈ ed → ∀ x, x ∈ e → x ≤ 7 := by
 obtain ⟨b, hb⟩ := graph_ok (n := n) (by omega) x2 h2
 have hG := nbr_gr b n
 generalize hadj : ((List.range n).map fun k => nbr b k n) = adj at hb hG
 have hlen : adj.length = n := by rw [← hadj]; simp
 have hloop : Ret (loop (sparsemake_Weighted_l3 (n : Int) x4 adj) ([], [], 0)) (fun o => o.1.length = n ∧ o.2.length = n ∧ (∀ x, x ∈ o.1 → 1 ≤ x ∧ x ≤ 5) ∧ ∀ (v : Nat) l, adj[v]? = some l → o.2[v]? = some (l.map fun u => 1 + pwf x4 n u v)) := by
  refine ret_loop n (fun k (t : List Int × List (List Int) × Int) => t.2.2 = k ∧ t.1.length = k ∧ t.2.1.length = k ∧ (∀ x, x ∈ t.1 → 1 ≤ x ∧ x ≤ 5) ∧ ∀ (v : Nat) l, v < k → adj[v]? = some l → t.2.1[v]? = some (l.map fun u => 1 + pwf x4 n u v)) ⟨rfl, rfl, rfl, by simp, fun v l hv => by omega⟩ ?_
  rintro k ⟨vx, ed, i⟩ hk ⟨rfl, g1, g2, g3, g4⟩
  simp only at g1 g2 g3 g4
  unfold sparsemake_Weighted_l3
  by_cases hkn : k < n
  ·obtain ⟨l, hl⟩ : ∃ l, adj[k]? = some l := ⟨adj[k]'(by omega), by simp [show k < adj.length by omega]⟩
   have e5 : (k : Int) < (n : Int) := by omega
   have hw : wa .i64 (k : Int) 1 = ((k + 1 : Nat) : Int) := wa1 (by omega)
   have a1 := at_ok (l := x4) (i := (k : Int)) (by omega)
   obtain ⟨z, p1, p2⟩ := place_ok (atF x4 (k : Int)) 5 (by omega) (by omega)
   have p1' : sparsekit_Place (atF x4 (k : Int)) 5 = some (z : Int) := p1
   have hw2 : wa .i64 1 (z : Int) = 1 + (z : Int) := wa_i (by omega) (by omega)
   have r1 := row_made hG hn hlen x4 hkn hl
   simp only [ret_bind, ret_if, ret_get, ret_set, ret_app, ret_mkL, ret_sli, ret_wr, ret_wq, ret_some, vq_l, vq_r, Int.toNat_natCast, if_true, if_false, obs, decide_false, decide_true, Bool.false_eq_true, Bool.not_true, Bool.not_false, not_true_eq_false, not_false_eq_true, true_implies, false_implies, reduceCtorEq, true_and, and_true, false_and, or_false, false_or, implies_true, e5, a1, p1', hw2, r1, hw, List.length_singleton]
   refine ⟨by omega, by omega, hkn, by simp [g1], by simp [g2], fun x hx => ?_, fun v l' hv hl' => ?_⟩
   ·rw [List.mem_append, List.mem_singleton] at hx
    rcases hx with hx | rfl
    ·exact g3 x hx
    ·omega
   ·by_cases hvk : v < k
    ·rw [List.getElem?_append_left (by omega)]; exact g4 v l' hvk hl'
    ·have : v = k := by omega
     subst this
     rw [hl] at hl'
     obtain rfl := Option.some.inj hl'
     rw [List.getElem?_append_right (by omega), g2]; simp
  ·have e5 : ¬ (k : Int) < (n : Int) := by omega
   simp only [ret_bind, ret_if, ret_get, ret_set, ret_app, ret_mkL, ret_sli, ret_wr, ret_wq, ret_some, vq_l, vq_r, Int.toNat_natCast, if_true, if_false, obs, decide_false, decide_true, Bool.false_eq_true, Bool.not_true, Bool.not_false, not_true_eq_false, not_false_eq_true, true_implies, false_implies, reduceCtorEq, true_and, and_true, false_and, or_false, false_or, implies_true, e5]
   exact ⟨by omega, by omega, g3, fun v l hl => g4 v l (by have := (List.getElem?_eq_some_iff.1 hl).1; omega) hl⟩
 obtain ⟨⟨vx, ed⟩, h3, h4, h5, h6, h7⟩ := hloop
 simp only at h4 h5 h6 h7
 have hed : ∀ e, e ∈ ed → ∀ x, x ∈ e → 1 ≤ x ∧ x ≤ 7 := by
  intro e he x hx
  obtain ⟨v, hv⟩ := List.mem_iff_getElem?.1 he
  have hvl := (List.getElem?_eq_some_iff.1 hv).1
  obtain ⟨l, hl⟩ : ∃ l, adj[v]? = some l := ⟨adj[v]'(by omega), by simp [show v < adj.length by omega]⟩
  rw [h7 v l hl] at hv
  obtain rfl := Option.some.inj hv
  obtain ⟨u, _, rfl⟩ := List.mem_map.1 hx
  have := pwf_ok x4 n u v
  omega
 refine ⟨adj, vx, ed, ?_, ⟨hG, by omega, by omega, fun x hx => ?_, ?_, fun e he x hx => ?_, ?_⟩, hlen, fun x hx => (h6 x hx).2, fun e he x hx => (hed e he x hx).2⟩
 ·unfold sparsemake_Weighted
  rw [bindS hb, bindS h3]
 ·have := h6 x hx; exact ⟨by omega, by omega⟩
 ·intro v l e hl he
  rw [h7 v l hl] at he
  obtain rfl := Option.some.inj he
  simp
 ·have := hed e he x hx; exact ⟨by omega, by omega⟩
 ·intro v k l e u x hl he hu hx
  rw [h7 v l hl] at he
  obtain rfl := Option.some.inj he
  rw [List.getElem?_map, hu] at hx
  obtain rfl := Option.some.inj hx
  have hur := hG.rng v l u hl (mem_get hu)
  obtain ⟨m, hm1, hm2⟩ := hG.sym v l u hl (mem_get hu)
  obtain ⟨k', hk'⟩ := List.mem_iff_getElem?.1 hm2
  refine ⟨m, _, k', hm1, h7 u.toNat m hm1, hk', ?_⟩
  rw [List.getElem?_map, hk', show ((u.toNat : Nat) : Int) = u by omega]
  simp only [Option.map_some]
  rw [pwf_comm]
end Pd
