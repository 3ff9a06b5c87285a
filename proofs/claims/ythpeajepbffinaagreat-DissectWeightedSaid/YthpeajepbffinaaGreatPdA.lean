/- Weighted graphs: what makes one valid; the program's check; weighted graphs made from numbers. -/
import Derived.Test.YthpeajepbffinaaGreatPlL
import Derived.Test.YthpeajepbffinaaGreatVcA
import Derived.Test.YthpeajepbffinaaGreatM6
set_option linter.unusedSimpArgs false
set_option linter.unusedVariables false
namespace Pd
open Pl Sx Go M Vc

/-- a permitted weight -/
def Wg (x : Int) : Prop := 1 ≤ x ∧ x ≤ 1099511627776
structure Wt (adj : List (List Int)) (vx : List Int) (ed : List (List Int)) : Prop where
 gr : Gr adj
 vl : vx.length = adj.length
 el : ed.length = adj.length
 vr : ∀ x, x ∈ vx → Wg x
 rl : ∀ (v : Nat) l e, adj[v]? = some l → ed[v]? = some e → e.length = l.length
 er : ∀ e, e ∈ ed → ∀ x, x ∈ e → Wg x
 sy : ∀ (v k : Nat) l e u x, adj[v]? = some l → ed[v]? = some e → l[k]? = some u → e[k]? = some x → ∃ l' e', ∃ k' : Nat, adj[u.toNat]? = some l' ∧ ed[u.toNat]? = some e' ∧ l'[k']? = some (v : Int) ∧ e'[k']? = some x

theorem search_at {l : List Int} (h : l.Pairwise (· < ·)) (hl : l.length < 1000000) {k : Nat} {x : Int} (hk : l[k]? = some x) : slices_BinarySearch_int l x = some ((k : Int), true) := by
 unfold slices_BinarySearch_int
 obtain ⟨hkl, hkx⟩ := List.getElem?_eq_some_iff.1 hk
 obtain ⟨o, h1, h2⟩ := whileG (step := slices_BinarySearch_int_l3 l x) (s := (0, (l.length : Int)))
   (fun s => ∃ a b : Nat, s = ((a : Int), (b : Int)) ∧ a ≤ b ∧ b ≤ l.length ∧ (∀ i, ∀ hi : i < l.length, i < a → l[i] < x) ∧ (∀ i, ∀ hi : i < l.length, b ≤ i → x ≤ l[i]))
   (fun o => ∃ a : Nat, o = (a : Int) ∧ a ≤ l.length ∧ (∀ i, ∀ hi : i < l.length, i < a → l[i] < x) ∧ (∀ i, ∀ hi : i < l.length, a ≤ i → x ≤ l[i])) (fun s => (s.2 - s.1).toNat)
   ⟨0, l.length, rfl, by omega, by omega, fun i _ h => by omega, fun i _ h => by omega⟩ (by simp only; omega) (by
   rintro s ⟨a, b, rfl, hab, hb, ha1, hb1⟩
   unfold slices_BinarySearch_int_l3
   simp only
   by_cases hc : a < b
   ·have hm : (a + b) / 2 < l.length := by omega
    rw [if_pos (by omega), mid_ok a b hc (by omega), bindS (getI_lt hm), bindS (less_ok _ _)]
    unfold slices_BinarySearch_int_j11
    by_cases hlt : l[(a + b) / 2] < x
    ·rw [if_pos (by simpa using hlt), wa1 (by omega)]
     refine .inl ⟨_, rfl, ⟨(a + b) / 2 + 1, b, rfl, by omega, hb, fun i hi hia => ?_, hb1⟩, by simp only; omega⟩
     by_cases he : i = (a + b) / 2
     ·subst he; exact hlt
     ·have := asc_get h hm (i := i) (by omega)
      omega
    ·rw [if_neg (by simpa using hlt)]
     refine .inl ⟨_, rfl, ⟨a, (a + b) / 2, rfl, by omega, by omega, ha1, fun i hi hia => ?_⟩, by simp only; omega⟩
     by_cases he : i = (a + b) / 2
     ·subst he; omega
     ·have := asc_get h hi (i := (a + b) / 2) (by omega)
      omega
   ·rw [if_neg (by omega)]
    exact .inr ⟨_, rfl, a, rfl, by omega, ha1, fun i hi hia => hb1 i hi (by omega)⟩)
 rw [bindS h1]
 obtain ⟨a, rfl, hal, ha1, ha2⟩ := h2
 have hak : a = k := by
  rcases Nat.lt_trichotomy a k with h3 | h3 | h3
  ·have h4 := ha2 a (by omega) (Nat.le_refl _)
   have h5 := asc_get h hkl h3
   omega
  ·exact h3
  ·have := ha1 k hkl h3; omega
 subst hak
 rw [if_pos (by omega), bindS (getI_lt hkl), if_pos hkx]
 simp

theorem weights_ok {l : List Int} (hl : l.length ≤ 100000) : Ret (dissect_weights l) (fun b => b = true ↔ ∀ x, x ∈ l → Wg x) := by
 unfold dissect_weights slices_ContainsFunc_int slices_IndexFunc_int
 rw [ret_bind, ret_bind, ret_bind]
 refine ret_call (P := fun o => (o = .inl () ∧ ∀ x, x ∈ l → Wg x) ∨ (∃ k : Int, 0 ≤ k ∧ o = .inr k ∧ ¬ ∀ x, x ∈ l → Wg x)) ?_ ?_
 ·refine ret_loop l.length (fun k (t : Int) => t = (k : Int) ∧ ∀ x, x ∈ l.take k → Wg x) ⟨rfl, by simp⟩ ?_
  rintro k _ hk ⟨rfl, hI⟩
  unfold slices_IndexFunc_int_l1 dissect_weights_1
  by_cases hkl : k < l.length
  ·obtain ⟨x, hx⟩ : ∃ x, l[k]? = some x := ⟨l[k], by simp [hkl]⟩
   have e1 : getI l (k : Int) = some x := hx
   have e5 : (k : Int) < (l.length : Int) := by omega
   have hw : wa .i64 (k : Int) 1 = ((k + 1 : Nat) : Int) := wa1 (by omega)
   by_cases hg : Wg x
   ·have e6 : (decide (x < 1) || decide ((1099511627776 : Int) < x)) = false := by unfold Wg at hg; simp; omega
    simp only [ret_bind, ret_if, ret_get, ret_set, ret_app, ret_mkL, ret_sli, ret_wr, ret_wq, ret_some, vq_l, vq_r, Int.toNat_natCast, if_true, if_false, obs, decide_false, decide_true, Bool.false_eq_true, Bool.not_true, Bool.not_false, not_true_eq_false, not_false_eq_true, true_implies, false_implies, reduceCtorEq, true_and, and_true, false_and, or_false, false_or, implies_true, e1, e5, e6, hw]
    exact ⟨hkl, fun y hy => by rw [mts hx] at hy; rcases hy with hy | rfl; exact hI y hy; exact hg⟩
   ·have e6 : (decide (x < 1) || decide ((1099511627776 : Int) < x)) = true := by unfold Wg at hg; simp; omega
    simp only [ret_bind, ret_if, ret_get, ret_set, ret_app, ret_mkL, ret_sli, ret_wr, ret_wq, ret_some, vq_l, vq_r, Int.toNat_natCast, if_true, if_false, obs, decide_false, decide_true, Bool.false_eq_true, Bool.not_true, Bool.not_false, not_true_eq_false, not_false_eq_true, true_implies, false_implies, reduceCtorEq, true_and, and_true, false_and, or_false, false_or, implies_true, e1, e5, e6]
    exact ⟨(k : Int), by omega, rfl, fun h => hg (h x (mem_get hx))⟩
  ·have e5 : ¬ (k : Int) < (l.length : Int) := by omega
   simp only [ret_bind, ret_if, ret_get, ret_set, ret_app, ret_mkL, ret_sli, ret_wr, ret_wq, ret_some, vq_l, vq_r, Int.toNat_natCast, if_true, if_false, obs, decide_false, decide_true, Bool.false_eq_true, Bool.not_true, Bool.not_false, not_true_eq_false, not_false_eq_true, true_implies, false_implies, reduceCtorEq, true_and, and_true, false_and, or_false, false_or, implies_true, e5]
   rw [take_all (by omega)] at hI
   exact .inl hI
 ·rintro o (⟨rfl, h⟩ | ⟨k, hk, rfl, h⟩)
  ·simp only [ret_some]
   have : decide ((0 : Int) ≤ -1) = false := by decide
   rw [this]; simp; exact h
  ·simp only [ret_some, decide_eq_true hk]
   simp only [Bool.not_true, Bool.false_eq_true, false_iff]
   exact h
theorem weights_true {l : List Int} (hl : l.length ≤ 100000) (h : ∀ x, x ∈ l → Wg x) : dissect_weights l = some true := by
 obtain ⟨b, h1, h2⟩ := weights_ok hl
 rw [h1, h2.2 h]

theorem Wt.row {adj : List (List Int)} {vx : List Int} {ed : List (List Int)} (h : Wt adj vx ed) {v : Nat} (hv : v < adj.length) : ∃ l e, adj[v]? = some l ∧ ed[v]? = some e ∧ e.length = l.length := by
 have := h.el
 obtain ⟨l, hl⟩ : ∃ l, adj[v]? = some l := ⟨adj[v], by simp [hv]⟩
 obtain ⟨e, he⟩ : ∃ e, ed[v]? = some e := ⟨ed[v]'(by omega), by simp [show v < ed.length by omega]⟩
 exact ⟨l, e, hl, he, h.rl v l e hl he⟩

theorem checkW_ok {adj : List (List Int)} {vx : List Int} {ed : List (List Int)} (h : Wt adj vx ed) (hn : adj.length ≤ 200) : dissect_CheckWeighted adj vx ed = some 0 := by
 have hvl := h.vl
 have hel := h.el
 unfold dissect_CheckWeighted
 rw [bindS (graphCheck_ok h.gr hn), if_pos rfl, if_neg (by simp; omega), bindS (weights_true (by omega) h.vr)]
 have l5 : loop (dissect_CheckWeighted_l5 adj ed) 0 = some (.inl ()) := by
  refine Ret.eq ?_
  refine ret_loop adj.length (fun k (t : Int) => t = (k : Int)) rfl ?_
  rintro k _ hk rfl
  unfold dissect_CheckWeighted_l5
  by_cases hkl : k < adj.length
  ·obtain ⟨l, e, e1, e2, e3⟩ := h.row hkl
   have e1' : getI adj (k : Int) = some l := e1
   have e2' : getI ed (k : Int) = some e := e2
   have hll := h.gr.len e1
   have e4 := weights_true (l := e) (by omega) (h.er e (mem_get e2))
   have e5 : (k : Int) < (adj.length : Int) := by omega
   have e6 : (e.length : Int) = (l.length : Int) := by omega
   have hw : wa .i64 (k : Int) 1 = ((k + 1 : Nat) : Int) := wa1 (by omega)
   simp only [ret_bind, ret_if, ret_get, ret_set, ret_app, ret_mkL, ret_sli, ret_wr, ret_wq, ret_some, vq_l, vq_r, Int.toNat_natCast, if_true, if_false, obs, decide_false, decide_true, Bool.false_eq_true, Bool.not_true, Bool.not_false, not_true_eq_false, not_false_eq_true, true_implies, false_implies, reduceCtorEq, true_and, and_true, false_and, or_false, false_or, implies_true, e1', e2', e4, e5, e6, hw]
   omega
  ·have e5 : ¬ (k : Int) < (adj.length : Int) := by omega
   simp only [ret_bind, ret_if, ret_get, ret_set, ret_app, ret_mkL, ret_sli, ret_wr, ret_wq, ret_some, vq_l, vq_r, Int.toNat_natCast, if_true, if_false, obs, decide_false, decide_true, Bool.false_eq_true, Bool.not_true, Bool.not_false, not_true_eq_false, not_false_eq_true, true_implies, false_implies, reduceCtorEq, true_and, and_true, false_and, or_false, false_or, implies_true, e5]
 have l8 : loop (dissect_CheckWeighted_l8 adj ed vx) 0 = some (.inl ()) := by
  refine Ret.eq ?_
  refine ret_loop adj.length (fun k (t : Int) => t = (k : Int)) rfl ?_
  rintro v _ hk rfl
  unfold dissect_CheckWeighted_l8
  by_cases hkl : v < adj.length
  ·obtain ⟨l, e, e1, e2, e3⟩ := h.row hkl
   have e1' : getI adj (v : Int) = some l := e1
   have e2' : getI ed (v : Int) = some e := e2
   have hll := h.gr.len e1
   have e5 : (v : Int) < (adj.length : Int) := by omega
   have hw : wa .i64 (v : Int) 1 = ((v + 1 : Nat) : Int) := wa1 (by omega)
   have inner : loop (dissect_CheckWeighted_l9 l ed (v : Int) adj vx) 0 = some (.inl ()) := by
    refine Ret.eq ?_
    refine ret_loop l.length (fun k (t : Int) => t = (k : Int)) rfl ?_
    rintro k _ hk rfl
    unfold dissect_CheckWeighted_l9
    by_cases hkl : k < l.length
    ·obtain ⟨u, hu⟩ : ∃ u, l[k]? = some u := ⟨l[k], by simp [hkl]⟩
     obtain ⟨x, hx⟩ : ∃ x, e[k]? = some x := ⟨e[k]'(by omega), by simp [show k < e.length by omega]⟩
     obtain ⟨l', e', k', f1, f2, f3, f4⟩ := h.sy v k l e u x e1 e2 hu hx
     have hur := h.gr.rng v l u e1 (mem_get hu)
     have g1 : getI l (k : Int) = some u := hu
     have g2 : getI e (k : Int) = some x := hx
     have g3 : getI adj u = some l' := getI_of hur.1 f1
     have g4 : getI ed u = some e' := getI_of hur.1 f2
     have g5 := search_at (h.gr.asc _ _ f1) (by have := h.gr.len f1; omega) f3
     have g6 : getI e' (k' : Int) = some x := f4
     have g7 : dissect_weight adj vx ed u (v : Int) = some x := by
      unfold dissect_weight
      rw [bindS g3, bindS g5, bindS g4, bindS g6]
     have e5 : (k : Int) < (l.length : Int) := by omega
     have hw : wa .i64 (k : Int) 1 = ((k + 1 : Nat) : Int) := wa1 (by omega)
     simp only [ret_bind, ret_if, ret_get, ret_set, ret_app, ret_mkL, ret_sli, ret_wr, ret_wq, ret_some, vq_l, vq_r, Int.toNat_natCast, if_true, if_false, obs, decide_false, decide_true, Bool.false_eq_true, Bool.not_true, Bool.not_false, not_true_eq_false, not_false_eq_true, true_implies, false_implies, reduceCtorEq, true_and, and_true, false_and, or_false, false_or, implies_true, g1, e2', g2, g7, e5, hw]
     omega
    ·have e5 : ¬ (k : Int) < (l.length : Int) := by omega
     simp only [ret_bind, ret_if, ret_get, ret_set, ret_app, ret_mkL, ret_sli, ret_wr, ret_wq, ret_some, vq_l, vq_r, Int.toNat_natCast, if_true, if_false, obs, decide_false, decide_true, Bool.false_eq_true, Bool.not_true, Bool.not_false, not_true_eq_false, not_false_eq_true, true_implies, false_implies, reduceCtorEq, true_and, and_true, false_and, or_false, false_or, implies_true, e5]
   simp only [ret_bind, ret_if, ret_get, ret_set, ret_app, ret_mkL, ret_sli, ret_wr, ret_wq, ret_some, vq_l, vq_r, Int.toNat_natCast, if_true, if_false, obs, decide_false, decide_true, Bool.false_eq_true, Bool.not_true, Bool.not_false, not_true_eq_false, not_false_eq_true, true_implies, false_implies, reduceCtorEq, true_and, and_true, false_and, or_false, false_or, implies_true, e1', inner, e5, hw]
   omega
  ·have e5 : ¬ (v : Int) < (adj.length : Int) := by omega
   simp only [ret_bind, ret_if, ret_get, ret_set, ret_app, ret_mkL, ret_sli, ret_wr, ret_wq, ret_some, vq_l, vq_r, Int.toNat_natCast, if_true, if_false, obs, decide_false, decide_true, Bool.false_eq_true, Bool.not_true, Bool.not_false, not_true_eq_false, not_false_eq_true, true_implies, false_implies, reduceCtorEq, true_and, and_true, false_and, or_false, false_or, implies_true, e5]
 simp only [Bool.not_true, obs, Bool.false_eq_true, if_false]
 rw [bindS l5]
 simp only
 rw [bindS l8]

/-! ### weighted graphs made from numbers -/
end Pd
