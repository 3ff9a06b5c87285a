/- The components of a graph. -/
import Derived.Test.YthpeajepbffinaaPsJ
set_option linter.unusedSimpArgs false
set_option linter.unusedVariables false
namespace Pl
open Sx Go M Vc

theorem nbp_sym {adj : List (List Int)} (hG : Gr adj) {v w : Nat} (h : nbp adj v w) : nbp adj w v := by
 obtain ⟨l, h1, h2⟩ := h
 obtain ⟨m, h3, h4⟩ := hG.sym v l _ h1 h2
 exact ⟨m, by simpa using h3, h4⟩
theorem nbp_lt {adj : List (List Int)} (hG : Gr adj) {v w : Nat} (h : nbp adj v w) : v < adj.length ∧ w < adj.length := by
 obtain ⟨l, h1, h2⟩ := h
 have h3 := hG.rng v l _ h1 h2
 exact ⟨(List.getElem?_eq_some_iff.1 h1).1, by omega⟩

structure CS (adj : List (List Int)) (k : Nat) (out : List (List Int)) : Prop where
 cls : ∀ c, c ∈ out → ∃ r : Nat, r < k ∧ CC adj r c ∧ c.head? = some (r : Int)
 ord : out.Pairwise (fun a b => ∀ x y, a.head? = some x → b.head? = some y → x < y)
 dis : out.Pairwise (fun a b => ∀ x, x ∈ a → x ∉ b)
 all : ∀ u : Nat, u < k → ∃ c, c ∈ out ∧ (u : Int) ∈ c
 len : out.length ≤ k

theorem CS.next {adj : List (List Int)} {k : Nat} {out : List (List Int)} (h : CS adj k out) (hk : ∃ c, c ∈ out ∧ (k : Int) ∈ c) : CS adj (k + 1) out :=
 ⟨fun c hc => by obtain ⟨r, h1, h2⟩ := h.cls c hc; exact ⟨r, by omega, h2⟩, h.ord, h.dis, fun u hu => by
  by_cases hu' : u = k
  ·subst hu'; exact hk
  ·exact h.all u (by omega), by have := h.len; omega⟩

theorem asc_head {c : List Int} (h : c.Pairwise (· < ·)) {x : Int} (hx : x ∈ c) (hm : ∀ y, y ∈ c → x ≤ y) : c.head? = some x := by
 cases c with
 | nil => simp at hx
 | cons a c =>
  rw [List.pairwise_cons] at h
  rw [List.mem_cons] at hx
  have h1 := hm a (by simp)
  rcases hx with hx | hx
  ·simp [hx]
  ·have := h.1 x hx; omega

theorem CS.push {adj : List (List Int)} (hG : Gr adj) {k : Nat} {out : List (List Int)} (h : CS adj k out) (hno : ¬ ∃ c, c ∈ out ∧ (k : Int) ∈ c) {c : List Int} (hc : CC adj k c) : CS adj (k + 1) (out ++ [c]) := by
 have hS : ∀ u : Nat, (u : Int) ∈ c → ∀ c', c' ∈ out → (u : Int) ∉ c' := by
  refine hc.min (fun u => ∀ c', c' ∈ out → (u : Int) ∉ c') (fun c' h1 h2 => hno ⟨c', h1, h2⟩) (fun v w hv h1 h2 c' h3 h4 => ?_)
  obtain ⟨r, _, h5, _⟩ := h.cls c' h3
  exact h1 c' h3 (h5.clo w v h4 (nbp_sym hG h2))
 have hge : ∀ x, x ∈ c → (k : Int) ≤ x := by
  intro x hx
  have h1 := hc.rng x hx
  by_cases hlt : x < (k : Int)
  ·obtain ⟨c', h2, h3⟩ := h.all x.toNat (by omega)
   have := hS x.toNat (by rwa [show ((x.toNat : Nat) : Int) = x by omega]) c' h2
   exact absurd h3 this
  ·omega
 have hh := asc_head hc.asc hc.mem hge
 refine ⟨fun c' hc' => ?_, ?_, ?_, fun u hu => ?_, by have := h.len; simp; omega⟩
 ·rw [List.mem_append, List.mem_singleton] at hc'
  rcases hc' with hc' | rfl
  ·obtain ⟨r, h1, h2⟩ := h.cls c' hc'; exact ⟨r, by omega, h2⟩
  ·exact ⟨k, by omega, hc, hh⟩
 ·rw [List.pairwise_append]
  refine ⟨h.ord, by simp, fun a ha b hb x y hx hy => ?_⟩
  rw [List.mem_singleton] at hb
  subst hb
  obtain ⟨r, h1, _, h2⟩ := h.cls a ha
  rw [h2] at hx; rw [hh] at hy
  cases hx; cases hy; omega
 ·rw [List.pairwise_append]
  refine ⟨h.dis, by simp, fun a ha b hb x hx hy => ?_⟩
  rw [List.mem_singleton] at hb
  subst hb
  have h1 := hc.rng x hy
  exact hS x.toNat (by rwa [show ((x.toNat : Nat) : Int) = x by omega]) a ha (by rwa [show ((x.toNat : Nat) : Int) = x by omega])
 ·by_cases hu' : u = k
  ·subst hu'; exact ⟨c, by simp, hc.mem⟩
  ·obtain ⟨c', h1, h2⟩ := h.all u (by omega); exact ⟨c', by simp [h1], h2⟩

theorem cmark_ok (r : List Int) (s : List Bool) (hr : ∀ x, x ∈ r → 0 ≤ x ∧ x < s.length) (hl : r.length < 1000000) : Ret (loop (graph_Components_l13 r) (s, 0)) (fun t => t.length = s.length ∧ ∀ u : Nat, u < s.length → t[u]? = if (u : Int) ∈ r then some true else s[u]?) := by
 refine ret_loop r.length (fun k (t : List Bool × Int) => t.2 = k ∧ t.1.length = s.length ∧ ∀ u : Nat, u < s.length → t.1[u]? = if (u : Int) ∈ r.take k then some true else s[u]?) (by simp) ?_
 rintro k ⟨t, i⟩ hk ⟨rfl, h1, h2⟩
 unfold graph_Components_l13
 by_cases hkl : k < r.length
 ·obtain ⟨x, hx⟩ : ∃ x, r[k]? = some x := ⟨r[k], by simp [hkl]⟩
  have hxr := hr x (mem_get hx)
  have e1 : getI r (k : Int) = some x := hx
  have hw : wa .i64 (k : Int) 1 = ((k + 1 : Nat) : Int) := wa1 (by omega)
  have e5 : (k : Int) < (r.length : Int) := by omega
  simp only [ret_bind, ret_if, ret_get, ret_set, ret_app, ret_mkL, ret_sli, ret_wr, ret_wq, ret_some, vq_l, vq_r, Int.toNat_natCast, if_true, if_false, obs, decide_false, decide_true, Bool.false_eq_true, Bool.not_true, Bool.not_false, not_true_eq_false, not_false_eq_true, true_implies, false_implies, reduceCtorEq, e1, hw, e5] at *
  clear e1 hw e5 hr
  grind
 ·have e5 : ¬ (k : Int) < (r.length : Int) := by omega
  simp only [ret_bind, ret_if, ret_get, ret_set, ret_app, ret_mkL, ret_sli, ret_wr, ret_wq, ret_some, vq_l, vq_r, Int.toNat_natCast, if_true, if_false, obs, decide_false, decide_true, Bool.false_eq_true, Bool.not_true, Bool.not_false, not_true_eq_false, not_false_eq_true, true_implies, false_implies, reduceCtorEq, e5] at *
  exact ⟨h1, fun u hu => by rw [h2 u hu, take_all (by omega)]⟩

open Classical in
theorem components_ok {adj : List (List Int)} (hG : Gr adj) (hn : adj.length ≤ 30) : ∃ out, graph_Components adj = some out ∧ CS adj adj.length out := by
 have : Ret (graph_Components adj) (fun out => CS adj adj.length out) := by
  unfold graph_Components
  rw [bindS (graphCheck_ok hG (by omega)), if_pos rfl, bindS (mkL_nat false adj.length (by omega))]
  simp only [ret_bind, ret_some]
  refine ret_loop adj.length (fun k (t : List Bool × List (List Int) × Int) => t.2.2 = k ∧ CS adj k t.2.1 ∧ t.1.length = adj.length ∧ ∀ u : Nat, u < adj.length → t.1[u]? = some (decide (∃ c, c ∈ t.2.1 ∧ (u : Int) ∈ c))) ⟨rfl, ⟨by simp, by simp, by simp, by simp, by simp⟩, by simp, fun u hu => by simp [hu]⟩ ?_
  rintro k ⟨seen, out, i⟩ hk ⟨rfl, hC, hl, hs⟩
  simp only at hC hl hs
  unfold graph_Components_l9 graph_Components_j12
  simp only [ret_bind, ret_if, ret_get, ret_some, vq_l, vq_r, Int.toNat_natCast]
  refine ⟨fun h => ⟨by omega, by omega, fun x hx => ?_⟩, fun h => ?_⟩
  ·rw [hs k (by omega)] at hx
   obtain rfl := Option.some.inj hx
   have hw : wa .i64 (k : Int) 1 = ((k + 1 : Nat) : Int) := wa1 (by omega)
   refine ⟨fun hx => ⟨by omega, hw, hC.next (by simpa using hx), hl, hs⟩, fun hx => ?_⟩
   have hno : ¬ ∃ c, c ∈ out ∧ (k : Int) ∈ c := by simpa using hx
   obtain ⟨o, c, c1, c2, c3, c4⟩ := comp_ok hG hn (root := k) (by omega)
   rw [ret_of c1, ret_of c2, ret_of c3]
   have hcl := asc_len c4.asc c4.rng
   refine ret_call (cmark_ok c seen (fun x hx => by have := c4.rng x hx; omega) (by omega)) ?_
   rintro t ⟨t1, t2⟩
   rw [ret_app]
   have hcl2 := hC.len
   refine ⟨by simp; omega, by omega, hw, hC.push hG hno c4, by omega, fun u hu => ?_⟩
   rw [t2 u (by omega), hs u hu]
   by_cases huc : (u : Int) ∈ c
   ·simp [huc]
   ·simp only [huc, if_false]
    congr 1
    rw [decide_eq_decide]
    constructor
    ·rintro ⟨c', h1, h2⟩; exact ⟨c', by simp [h1], h2⟩
    ·rintro ⟨c', h1, h2⟩
     rw [List.mem_append, List.mem_singleton] at h1
     rcases h1 with h1 | rfl
     ·exact ⟨c', h1, h2⟩
     ·exact absurd h2 huc
  ·obtain rfl : k = adj.length := by omega
   exact hC
 exact this
theorem perm_true {l : List Int} {n : Nat} (hn : n ≤ 100000) (hl : l.length = n) (hd : l.Nodup) (hr : ∀ x, x ∈ l → 0 ≤ x ∧ x < n) : sparsekit_Perm l (n : Int) = some true := by
 refine Ret.eq ?_
 unfold sparsekit_Perm
 rw [if_pos (by omega)]
 simp only [ret_bind, ret_mkL, Int.toNat_natCast]
 refine ⟨by omega, by omega, ?_⟩
 refine ret_loop n (fun k (t : List Bool × Int) => t.2 = k ∧ t.1.length = n ∧ ∀ u : Nat, u < n → t.1[u]? = some (decide ((u : Int) ∈ l.take k))) ⟨rfl, by simp, fun u hu => by simp [hu]⟩ ?_
 rintro k ⟨t, i⟩ hk ⟨rfl, h1, h2⟩
 simp only at h1 h2
 unfold sparsekit_Perm_l5
 by_cases hkn : k < n
 ·have hx : l[k]? = some (l[k]'(by omega)) := by simp [show k < l.length by omega]
  have hxr := hr _ (mem_get hx)
  have hno := nodup_take hd (k := k) (by omega)
  have h3 := h2 (l[k]'(by omega)).toNat (by omega)
  generalize hv : (l[k]'(by omega)) = x at hx hxr hno h3
  have hxx : ((x.toNat : Nat) : Int) = x := by omega
  rw [hxx, decide_eq_false hno] at h3
  have e1 : getI l (k : Int) = some x := hx
  have e2 : getI t x = some false := getI_of hxr.1 h3
  have hw : wa .i64 (k : Int) 1 = ((k + 1 : Nat) : Int) := wa1 (by omega)
  have e3 : ¬ x < 0 := by omega
  have e4 : ¬ (n : Int) ≤ x := by omega
  have e5 : (k : Int) < (n : Int) := by omega
  simp only [ret_bind, ret_if, ret_get, ret_set, ret_app, ret_mkL, ret_sli, ret_wr, ret_wq, ret_some, vq_l, vq_r, Int.toNat_natCast, if_true, if_false, obs, decide_false, decide_true, Bool.false_eq_true, Bool.not_true, Bool.not_false, not_true_eq_false, not_false_eq_true, true_implies, false_implies, reduceCtorEq, e1, e2, hw, e3, e4, e5]
  have := fun y => mts (y := y) hx
  grind
 ·have e5 : ¬ (k : Int) < (n : Int) := by omega
  simp only [ret_bind, ret_if, ret_get, ret_set, ret_app, ret_mkL, ret_sli, ret_wr, ret_wq, ret_some, vq_l, vq_r, Int.toNat_natCast, if_true, if_false, obs, decide_false, decide_true, Bool.false_eq_true, Bool.not_true, Bool.not_false, not_true_eq_false, not_false_eq_true, true_implies, false_implies, reduceCtorEq, e5]

end Pl
