/- Relabelling a graph, by the program (copied from PsF, PsB, PtD, PtE for the etree seat). -/
import Derived.Test.YtoelidgkfpmgnaaPsA
import Derived.Test.YtoelidgkfpmgnaaPuA
import Derived.Test.YtoelidgkfpmgnaaPvC
set_option linter.unusedSimpArgs false
set_option linter.unusedVariables false
namespace Pv
open Pu Pl Sx Go M Vc

def coll (tm : Nat → Prop) [DecidablePred tm] : Nat → List Int
  | 0 => []
  | m + 1 => coll tm m ++ (if tm m then [(m : Int)] else [])
theorem coll_mem {tm : Nat → Prop} [DecidablePred tm] {x : Int} : ∀ m, x ∈ coll tm m ↔ 0 ≤ x ∧ x.toNat < m ∧ tm x.toNat := by
  intro m
  induction m with
  | zero => simp [coll]
  | succ m ih =>
    rw [coll, List.mem_append, ih]
    constructor
    · rintro (h | h)
      · exact ⟨h.1, by omega, h.2.2⟩
      · split at h
        · rename_i hc
          simp only [List.mem_singleton] at h; subst h
          exact ⟨by omega, by omega, by simpa using hc⟩
        · simp at h
    · rintro ⟨h1, h2, h3⟩
      by_cases hx : x.toNat = m
      · right
        rw [hx] at h3
        rw [if_pos h3]
        simp; omega
      · exact .inl ⟨h1, by omega, h3⟩
theorem coll_asc {tm : Nat → Prop} [DecidablePred tm] : ∀ m, (coll tm m).Pairwise (· < ·) := by
  intro m
  induction m with
  | zero => exact .nil
  | succ m ih =>
    rw [coll, List.pairwise_append]
    refine ⟨ih, ?_, ?_⟩
    · split <;> simp
    · intro x hx y hy
      have := (coll_mem m).1 hx
      split at hy
      · simp at hy; omega
      · simp at hy
theorem coll_len {tm : Nat → Prop} [DecidablePred tm] : ∀ m, (coll tm m).length ≤ m := by
  intro m
  induction m with
  | zero => simp [coll]
  | succ m ih => rw [coll, List.length_append]; split <;> simp <;> omega

def nbp (adj : List (List Int)) (v w : Nat) : Prop := ∃ l, adj[v]? = some l ∧ (w : Int) ∈ l
theorem nbp_sym {adj : List (List Int)} (hG : Gr adj) {v w : Nat} (h : nbp adj v w) : nbp adj w v := by
  obtain ⟨l, h1, h2⟩ := h
  obtain ⟨m, h3, h4⟩ := hG.sym v l _ h1 h2
  exact ⟨m, by simpa using h3, h4⟩
theorem asc_of {m : List Int} (h1 : m.Pairwise (· ≤ ·)) (h2 : m.Nodup) : m.Pairwise (· < ·) := by
  rw [List.pairwise_iff_getElem] at h1 ⊢
  intro i j hi hj hij
  have := h1 i j hi hj hij
  by_cases he : m[i] = m[j]
  · have := nodup_inj h2 he; omega
  · omega

theorem newSets_ok {n : Nat} (hn : n ≤ 1000) : graph_NewSets (n : Int) = some (List.replicate n (List.replicate n false)) := by
  refine Ret.eq ?_
  unfold graph_NewSets
  simp only [ret_bind, ret_mkL, ret_some, Int.toNat_natCast]
  refine ⟨by omega, by omega, ?_⟩
  refine ret_loop n (fun k (t : List (List Bool) × Int) => t.2 = k ∧ t.1.length = n ∧ ∀ u, u < k → t.1[u]? = some (List.replicate n false)) ⟨rfl, by simp, fun u h => by omega⟩ ?_
  rintro k ⟨t, i⟩ hk ⟨rfl, h1, h2⟩
  simp only at h1 h2
  unfold graph_NewSets_l1
  have hlen : (List.replicate n ([] : List Bool)).length = n := by simp
  by_cases hkn : k < n
  · have hw : wa .i64 (k : Int) 1 = ((k + 1 : Nat) : Int) := wa1 (by omega)
    have e5 : (k : Int) < (n : Int) := by omega
    simp only [ret_bind, ret_if, ret_get, ret_set, ret_app, ret_mkL, ret_sli, ret_wr, ret_wq, ret_some, vq_l, vq_r, Int.toNat_natCast, if_true, if_false, obs, decide_false, decide_true, Bool.false_eq_true, Bool.not_true, Bool.not_false, not_true_eq_false, not_false_eq_true, true_implies, false_implies, reduceCtorEq, hlen, e5, hw]
    refine ⟨by omega, by omega, by omega, by omega, hkn, trivial, by simp [h1], fun u hu => ?_⟩
    rw [List.getElem?_set]
    by_cases hku : k = u
    · rw [if_pos hku, if_pos (by omega)]
    · rw [if_neg hku]; exact h2 u (by omega)
  · have e5 : ¬ (k : Int) < (n : Int) := by omega
    simp only [ret_bind, ret_if, ret_get, ret_set, ret_app, ret_mkL, ret_sli, ret_wr, ret_wq, ret_some, vq_l, vq_r, Int.toNat_natCast, if_true, if_false, obs, decide_false, decide_true, Bool.false_eq_true, Bool.not_true, Bool.not_false, not_true_eq_false, not_false_eq_true, true_implies, false_implies, reduceCtorEq, hlen, e5]
    apply List.ext_getElem?
    intro u
    by_cases hu : u < n
    · rw [h2 u (by omega)]; simp [hu]
    · rw [List.getElem?_eq_none (by omega), List.getElem?_eq_none (by simp; omega)]

theorem join_ok {T : List (List Bool)} {n : Nat} {R : Nat → Nat → Prop} (hT : Tr T n R) {v w : Nat} (hv : v < n) (hw : w < n) : ∃ T', graph_Sets_Join T (v : Int) (w : Int) = some T' ∧ Tr T' n (fun a c => (v ≠ w ∧ ((a = v ∧ c = w) ∨ (a = w ∧ c = v))) ∨ R a c) := by
  unfold graph_Sets_Join graph_Sets_Join_j1
  by_cases hvw : v = w
  · subst hvw
    exact ⟨T, by rw [if_pos rfl], Tr.congr (fun a c _ _ => by simp) hT⟩
  · rw [if_neg (by omega)]
    obtain ⟨r, g1, g2, g3, _⟩ := hT.row hv
    obtain ⟨r', g1', g2', g3', _⟩ := hT.row hw
    have hT2 := hT.on (j := w) hv g2
    obtain ⟨r2, k1, k2, k3, _⟩ := hT2.row hw
    have hTl := hT.1
    rw [bindS g1, bindS g1', bindS (setI_lt (by omega)), bindS (setI_lt (by omega)), bindS k1, bindS (setI_lt (by omega)), bindS (setI_lt (by simp; omega))]
    exact ⟨_, rfl, Tr.congr (fun a c _ _ => by
      constructor
      · rintro (h | h | h)
        · exact .inl ⟨hvw, .inr h⟩
        · exact .inl ⟨hvw, .inl h⟩
        · exact .inr h
      · rintro (⟨_, h | h⟩ | h)
        · exact .inr (.inl h)
        · exact .inl h
        · exact .inr (.inr h)) (hT2.on (j := v) hw k2)⟩

open Classical in
theorem list_ok {T : List (List Bool)} {n : Nat} {R : Nat → Nat → Prop} (hT : Tr T n R) (hn : n ≤ 1000) {v : Nat} (hv : v < n) : graph_Sets_List T (v : Int) = some (coll (fun w => R v w) n) := by
  obtain ⟨r, g1, g2, g3, g4⟩ := hT.row hv
  refine Ret.eq ?_
  unfold graph_Sets_List
  rw [bindS g1]
  simp only [ret_bind, ret_some]
  refine ret_loop n (fun k (t : List Int × Int) => t.2 = k ∧ t.1 = coll (fun w => R v w) k) ⟨rfl, rfl⟩ ?_
  rintro k ⟨t, i⟩ hk ⟨rfl, rfl⟩
  unfold graph_Sets_List_l3 graph_Sets_List_j4
  have hcl := coll_len (tm := fun w => R v w) k
  by_cases hkn : k < n
  · obtain ⟨b, e1, e2⟩ := g4 k hkn
    have hw : wa .i64 (k : Int) 1 = ((k + 1 : Nat) : Int) := wa1 (by omega)
    have e5 : (k : Int) < (r.length : Int) := by omega
    simp only [ret_bind, ret_if, ret_get, ret_set, ret_app, ret_mkL, ret_sli, ret_wr, ret_wq, ret_some, vq_l, vq_r, Int.toNat_natCast, if_true, if_false, obs, decide_false, decide_true, Bool.false_eq_true, Bool.not_true, Bool.not_false, not_true_eq_false, not_false_eq_true, true_implies, false_implies, reduceCtorEq, e1, e5, hw]
    refine ⟨fun h => ⟨by simp; omega, hkn, trivial, ?_⟩, fun h => ⟨hkn, trivial, ?_⟩⟩
    · rw [coll, if_pos (e2.1 h)]
    · rw [coll, if_neg (fun hh => h (e2.2 hh)), List.append_nil]
  · have e5 : ¬ (k : Int) < (r.length : Int) := by omega
    have : k = n := by omega
    subst this
    simp only [ret_bind, ret_if, ret_get, ret_set, ret_app, ret_mkL, ret_sli, ret_wr, ret_wq, ret_some, vq_l, vq_r, Int.toNat_natCast, if_true, if_false, obs, decide_false, decide_true, Bool.false_eq_true, Bool.not_true, Bool.not_false, not_true_eq_false, not_false_eq_true, true_implies, false_implies, reduceCtorEq, e5]

open Classical in
theorem sgraph_ok {T : List (List Bool)} {n : Nat} {R : Nat → Nat → Prop} (hT : Tr T n R) (hn : n ≤ 1000) : graph_Sets_Graph T = some ((List.range n).map fun v => coll (fun w => R v w) n) := by
  refine Ret.eq ?_
  have hTl := hT.1
  unfold graph_Sets_Graph
  simp only [ret_bind, ret_mkL, ret_some, Int.toNat_natCast]
  refine ⟨by omega, by omega, ?_⟩
  refine ret_loop n (fun k (t : List (List Int) × Int) => t.2 = k ∧ t.1.length = n ∧ ∀ u, u < k → t.1[u]? = some (coll (fun w => R u w) n)) ⟨rfl, by simp [hTl], fun u h => by omega⟩ ?_
  rintro k ⟨t, i⟩ hk ⟨rfl, h1, h2⟩
  simp only at h1 h2
  unfold graph_Sets_Graph_l1
  by_cases hkn : k < n
  · have hw : wa .i64 (k : Int) 1 = ((k + 1 : Nat) : Int) := wa1 (by omega)
    have e5 : (k : Int) < (T.length : Int) := by omega
    simp only [ret_bind, ret_if, ret_get, ret_set, ret_app, ret_mkL, ret_sli, ret_wr, ret_wq, ret_some, vq_l, vq_r, Int.toNat_natCast, if_true, if_false, obs, decide_false, decide_true, Bool.false_eq_true, Bool.not_true, Bool.not_false, not_true_eq_false, not_false_eq_true, true_implies, false_implies, reduceCtorEq, e5, hw, list_ok hT hn hkn]
    refine ⟨by omega, by omega, hkn, trivial, by simp [h1], fun u hu => ?_⟩
    rw [List.getElem?_set]
    by_cases hku : k = u
    · subst hku; rw [if_pos rfl, if_pos (by omega)]
    · rw [if_neg hku]; exact h2 u (by omega)
  · have e5 : ¬ (k : Int) < (T.length : Int) := by omega
    simp only [ret_bind, ret_if, ret_get, ret_set, ret_app, ret_mkL, ret_sli, ret_wr, ret_wq, ret_some, vq_l, vq_r, Int.toNat_natCast, if_true, if_false, obs, decide_false, decide_true, Bool.false_eq_true, Bool.not_true, Bool.not_false, not_true_eq_false, not_false_eq_true, true_implies, false_implies, reduceCtorEq, e5]
    apply List.ext_getElem?
    intro u
    by_cases hu : u < n
    · rw [h2 u (by omega)]; simp [hu]
    · rw [List.getElem?_eq_none (by omega), List.getElem?_eq_none (by simp; omega)]

/-- l[i] and l[j] are neighbours -/
def IJ (adj : List (List Int)) (l : List Int) (i j : Nat) : Prop := ∃ (x y : Int), l[i]? = some x ∧ l[j]? = some y ∧ nbp adj x.toNat y.toNat
theorem IJ.sym {adj : List (List Int)} (hG : Gr adj) {l : List Int} {i j : Nat} (h : IJ adj l i j) : IJ adj l j i := by
  obtain ⟨x, y, h1, h2, h3⟩ := h
  exact ⟨y, x, h2, h1, nbp_sym hG h3⟩
theorem IJ.ne {adj : List (List Int)} (hG : Gr adj) {l : List Int} {i : Nat} (h : IJ adj l i i) : False := by
  obtain ⟨x, y, h1, h2, l', h3, h4⟩ := h
  rw [h1] at h2
  obtain rfl := Option.some.inj h2
  have := (hG.rng _ _ _ h3 h4).2.2
  omega

open Classical in
theorem induced_ok {adj : List (List Int)} (hG : Gr adj) (hn : adj.length ≤ 200) {l : List Int} (hl : l.length ≤ 200) (hr : ∀ x, x ∈ l → 0 ≤ x ∧ x < adj.length) : graph_induced adj l = some ((List.range l.length).map fun i => coll (fun j => IJ adj l i j) l.length) := by
  refine Ret.eq ?_
  unfold graph_induced
  rw [bindS (newSets_ok (by omega))]
  simp only [ret_bind]
  refine ret_call (P := fun T => Tr T l.length (IJ adj l)) ?_ (fun T hT => by rw [ret_of (sgraph_ok hT (by omega)), ret_some])
  refine ret_loop l.length (fun k (t : List (List Bool) × Int) => t.2 = k ∧ Tr t.1 l.length (fun i j => i < k ∧ j < k ∧ IJ adj l i j)) ⟨rfl, Tr.congr (fun i j _ _ => by simp) (Tr.blank _)⟩ ?_
  rintro k ⟨T, i⟩ hk ⟨rfl, hT⟩
  simp only at hT
  unfold graph_induced_l9
  by_cases hkl : k < l.length
  · obtain ⟨x, hx⟩ : ∃ x, l[k]? = some x := ⟨l[k], by simp [hkl]⟩
    have e1 : getI l (k : Int) = some x := hx
    have hxr := hr x (mem_get hx)
    have hgx : adj[x.toNat]? = some (adj[x.toNat]'(by omega)) := by simp [show x.toNat < adj.length by omega]
    have hgl := hG.len hgx
    have hw : wa .i64 (k : Int) 1 = ((k + 1 : Nat) : Int) := wa1 (by omega)
    have e5 : (k : Int) < (l.length : Int) := by omega
    simp only [ret_bind, ret_if, ret_get, ret_set, ret_app, ret_mkL, ret_sli, ret_wr, ret_wq, ret_some, vq_l, vq_r, Int.toNat_natCast, if_true, if_false, obs, decide_false, decide_true, Bool.false_eq_true, Bool.not_true, Bool.not_false, not_true_eq_false, not_false_eq_true, true_implies, false_implies, reduceCtorEq, e1, e5]
    refine ⟨by omega, by omega, by omega, ?_⟩
    have hz : (0 : Int).toNat = 0 := rfl
    rw [hz, List.drop_zero]
    refine ret_call (P := fun T' => Tr T' l.length (fun i j => (i < k ∧ j < k ∧ IJ adj l i j) ∨ (i = k ∧ j < k ∧ IJ adj l k j) ∨ (j = k ∧ i < k ∧ IJ adj l k i))) ?_ ?_
    · refine ret_loop k (fun m (t : List (List Bool) × Int) => t.2 = m ∧ Tr t.1 l.length (fun i j => (i < k ∧ j < k ∧ IJ adj l i j) ∨ (i = k ∧ j < m ∧ IJ adj l k j) ∨ (j = k ∧ i < m ∧ IJ adj l k i))) ⟨rfl, Tr.congr (fun i j _ _ => by simp) hT⟩ ?_
      rintro m ⟨T, i⟩ hm ⟨rfl, hT⟩
      simp only at hT
      unfold graph_induced_l12 graph_induced_j13
      have htl : (l.take k).length = k := by simp; omega
      by_cases hmk : m < k
      · obtain ⟨y, hy⟩ : ∃ y, l[m]? = some y := ⟨l[m]'(by omega), by simp [show m < l.length by omega]⟩
        have hy' : (l.take k)[m]? = some y := by rw [List.getElem?_take, if_pos hmk, hy]
        have e2 : getI (l.take k) (m : Int) = some y := hy'
        have hyr := hr y (mem_get hy)
        have e3 := joined_ok hG (getI_of hxr.1 hgx) hxr.1 (by omega) y
        have e6 : (m : Int) < ((l.take k).length : Int) := by omega
        have hw2 : wa .i64 (m : Int) 1 = ((m + 1 : Nat) : Int) := wa1 (by omega)
        have hiff : y ∈ adj[x.toNat]'(by omega) ↔ IJ adj l k m := by
          constructor
          · intro h
            exact ⟨x, y, hx, hy, _, hgx, by rwa [show ((y.toNat : Nat) : Int) = y by omega]⟩
          · rintro ⟨x', y', h1, h2, l', h3, h4⟩
            rw [hx] at h1; rw [hy] at h2
            obtain rfl := Option.some.inj h1
            obtain rfl := Option.some.inj h2
            rw [hgx] at h3
            obtain rfl := Option.some.inj h3
            rwa [show ((y.toNat : Nat) : Int) = y by omega] at h4
        simp only [ret_bind, ret_if, ret_get, ret_set, ret_app, ret_mkL, ret_sli, ret_wr, ret_wq, ret_some, vq_l, vq_r, Int.toNat_natCast, if_true, if_false, obs, decide_false, decide_true, Bool.false_eq_true, Bool.not_true, Bool.not_false, not_true_eq_false, not_false_eq_true, true_implies, false_implies, reduceCtorEq, e2, e3, e6, hw2]
        refine ⟨fun h => ?_, fun h => ⟨hmk, trivial, Tr.congr (fun i j _ _ => ?_) hT⟩⟩
        · have hJ := hiff.1 (by simpa using h)
          obtain ⟨T', j1, j2⟩ := join_ok hT hkl (show m < l.length by omega)
          rw [ret_of j1]
          refine ⟨hmk, trivial, Tr.congr (fun i j _ _ => ?_) j2⟩
          constructor
          · rintro (⟨_, ⟨rfl, rfl⟩ | ⟨rfl, rfl⟩⟩ | h | h | h)
            · exact .inr (.inl ⟨rfl, by omega, hJ⟩)
            · exact .inr (.inr ⟨rfl, by omega, hJ⟩)
            · exact .inl h
            · exact .inr (.inl ⟨h.1, by omega, h.2.2⟩)
            · exact .inr (.inr ⟨h.1, by omega, h.2.2⟩)
          · rintro (h | ⟨rfl, h1, h2⟩ | ⟨rfl, h1, h2⟩)
            · exact .inr (.inl h)
            · by_cases hjm : j = m
              · subst hjm; exact .inl ⟨by omega, .inl ⟨rfl, rfl⟩⟩
              · exact .inr (.inr (.inl ⟨rfl, by omega, h2⟩))
            · by_cases him : i = m
              · subst him; exact .inl ⟨by omega, .inr ⟨rfl, rfl⟩⟩
              · exact .inr (.inr (.inr ⟨rfl, by omega, h2⟩))
        · have hJ : ¬ IJ adj l k m := fun hh => h (by simpa using hiff.2 hh)
          constructor
          · rintro (h | h | h)
            · exact .inl h
            · exact .inr (.inl ⟨h.1, by omega, h.2.2⟩)
            · exact .inr (.inr ⟨h.1, by omega, h.2.2⟩)
          · rintro (h | ⟨rfl, h1, h2⟩ | ⟨rfl, h1, h2⟩)
            · exact .inl h
            · by_cases hjm : j = m
              · subst hjm; exact absurd h2 hJ
              · exact .inr (.inl ⟨rfl, by omega, h2⟩)
            · by_cases him : i = m
              · subst him; exact absurd h2 hJ
              · exact .inr (.inr ⟨rfl, by omega, h2⟩)
      · have e6 : ¬ (m : Int) < ((l.take k).length : Int) := by omega
        have : m = k := by omega
        subst this
        simp only [ret_bind, ret_if, ret_get, ret_set, ret_app, ret_mkL, ret_sli, ret_wr, ret_wq, ret_some, vq_l, vq_r, Int.toNat_natCast, if_true, if_false, obs, decide_false, decide_true, Bool.false_eq_true, Bool.not_true, Bool.not_false, not_true_eq_false, not_false_eq_true, true_implies, false_implies, reduceCtorEq, e6]
        exact hT
    · intro T' hT'
      refine ⟨hkl, hw, Tr.congr (fun i j _ _ => ?_) hT'⟩
      constructor
      · rintro (h | ⟨rfl, h1, h2⟩ | ⟨rfl, h1, h2⟩)
        · exact ⟨by omega, by omega, h.2.2⟩
        · exact ⟨by omega, by omega, h2⟩
        · exact ⟨by omega, by omega, h2.sym hG⟩
      · rintro ⟨h1, h2, h3⟩
        by_cases hik : i = k
        · subst hik
          by_cases hjk : j = i
          · subst hjk; exact (h3.ne hG).elim
          · exact .inr (.inl ⟨rfl, by omega, h3⟩)
        · by_cases hjk : j = k
          · subst hjk; exact .inr (.inr ⟨rfl, by omega, h3.sym hG⟩)
          · exact .inl ⟨by omega, by omega, h3⟩
  · have e5 : ¬ (k : Int) < (l.length : Int) := by omega
    simp only [ret_bind, ret_if, ret_get, ret_set, ret_app, ret_mkL, ret_sli, ret_wr, ret_wq, ret_some, vq_l, vq_r, Int.toNat_natCast, if_true, if_false, obs, decide_false, decide_true, Bool.false_eq_true, Bool.not_true, Bool.not_false, not_true_eq_false, not_false_eq_true, true_implies, false_implies, reduceCtorEq, e5]
    exact Tr.congr (fun i j hi hj => ⟨fun h => h.2.2, fun h => ⟨by omega, by omega, h⟩⟩) hT

/-- a permutation of 0 to n - 1 -/
structure Pm (l : List Int) (n : Nat) : Prop where
  len : l.length = n
  nd : l.Nodup
  rng : ∀ x, x ∈ l → 0 ≤ x ∧ x < (n : Int)

theorem twice_ok {l : List Int} {n : Nat} (hn : n ≤ 12) (h : Pm l n) : graph_twice l = some false := by
  have hlen := h.len
  obtain ⟨m, m1, m2, m3⟩ := sort_ok (l := l) (by omega)
  have hasc := asc_of m3 (m2.nodup_iff.2 h.nd)
  have hml : m.length = l.length := m2.length_eq
  have hc : slices_Compact_int m = some () := by
    refine Ret.eq ?_
    unfold slices_Compact_int
    rw [ret_if]
    refine ⟨fun _ => by rw [ret_some], fun h2 => ?_⟩
    rw [ret_bind]
    refine ret_loop m.length (fun k (t : Int) => t = ((k + 1 : Nat) : Int)) rfl ?_
    rintro k t hk rfl
    unfold slices_Compact_int_l7
    by_cases hkm : k + 1 < m.length
    · have e1 : getI m ((k + 1 : Nat) : Int) = some m[k + 1] := getI_lt hkm
      have e2 : ws .i64 ((k + 1 : Nat) : Int) 1 = (k : Int) := by rw [ws_i (by omega) (by omega)]; omega
      have e3 : getI m (k : Int) = some (m[k]'(by omega)) := getI_lt (by omega)
      have hlt := asc_get hasc hkm (i := k) (by omega)
      have e4 : ¬ m[k + 1] = (m[k]'(by omega)) := by omega
      have hw : wa .i64 ((k + 1 : Nat) : Int) 1 = ((k + 1 + 1 : Nat) : Int) := wa1 (by omega)
      have e5 : ((k + 1 : Nat) : Int) < (m.length : Int) := by omega
      simp only [ret_bind, ret_if, ret_get, ret_set, ret_app, ret_mkL, ret_sli, ret_wr, ret_wq, ret_some, vq_l, vq_r, Int.toNat_natCast, if_true, if_false, obs, decide_false, decide_true, Bool.false_eq_true, Bool.not_true, Bool.not_false, not_true_eq_false, not_false_eq_true, true_implies, false_implies, reduceCtorEq, e1, e2, e3, e4, e5, hw]
      exact ⟨by omega, trivial⟩
    · have e5 : ¬ ((k + 1 : Nat) : Int) < (m.length : Int) := by omega
      simp only [ret_bind, ret_if, ret_get, ret_set, ret_app, ret_mkL, ret_sli, ret_wr, ret_wq, ret_some, vq_l, vq_r, Int.toNat_natCast, if_true, if_false, obs, decide_false, decide_true, Bool.false_eq_true, Bool.not_true, Bool.not_false, not_true_eq_false, not_false_eq_true, true_implies, false_implies, reduceCtorEq, e5]
  unfold graph_twice slices_Values_int slices_Sorted_int slices_Collect_int colV BIG
  rw [if_pos (by omega)]
  simp only [Option.bind_some, m1, hc]
  rw [decide_eq_false (by omega)]

theorem permuted_ok {adj : List (List Int)} (hG : Gr adj) (hn : adj.length ≤ 12) {l : List Int} (h : Pm l adj.length) : graph_Permuted adj l = some 0 := by
  have hlen := h.len
  have hc : slices_ContainsFunc_int l adj = some false := by
    unfold slices_ContainsFunc_int
    have : slices_IndexFunc_int l adj = some (-1) := by
      refine Ret.eq ?_
      unfold slices_IndexFunc_int
      rw [ret_bind]
      refine ret_call (P := fun o => o = .inl ()) ?_ (by rintro _ rfl; rw [ret_some])
      refine ret_loop l.length (fun k (t : Int) => t = (k : Int)) rfl ?_
      rintro k t hk rfl
      unfold slices_IndexFunc_int_l1 graph_Permuted_1 graph_vertex
      by_cases hkl : k < l.length
      · have hx := h.rng _ (List.getElem_mem hkl)
        have e1 : getI l (k : Int) = some l[k] := getI_lt hkl
        have e5 : (k : Int) < (l.length : Int) := by omega
        have hw : wa .i64 (k : Int) 1 = ((k + 1 : Nat) : Int) := wa1 (by omega)
        have e6 : (decide (0 ≤ l[k]) && decide (l[k] < (adj.length : Int))) = true := by simp; omega
        simp only [ret_bind, ret_if, ret_get, ret_set, ret_app, ret_mkL, ret_sli, ret_wr, ret_wq, ret_some, vq_l, vq_r, Int.toNat_natCast, if_true, if_false, obs, decide_false, decide_true, Bool.false_eq_true, Bool.not_true, Bool.not_false, not_true_eq_false, not_false_eq_true, true_implies, false_implies, reduceCtorEq, e1, e5, e6, hw]
        exact ⟨by omega, trivial⟩
      · have e5 : ¬ (k : Int) < (l.length : Int) := by omega
        simp only [ret_bind, ret_if, ret_get, ret_set, ret_app, ret_mkL, ret_sli, ret_wr, ret_wq, ret_some, vq_l, vq_r, Int.toNat_natCast, if_true, if_false, obs, decide_false, decide_true, Bool.false_eq_true, Bool.not_true, Bool.not_false, not_true_eq_false, not_false_eq_true, true_implies, false_implies, reduceCtorEq, e5]
    rw [bindS this, decide_eq_false (by omega)]
  unfold graph_Permuted
  rw [bindS (graphCheck_ok hG (by omega)), if_pos rfl, if_pos (by omega), bindS hc]
  simp only [Bool.false_eq_true, if_false, Option.bind_some, twice_ok hn h]

open Classical in
theorem relabel_ok {adj : List (List Int)} (hG : Gr adj) (hn : adj.length ≤ 12) {l : List Int} (h : Pm l adj.length) : graph_Relabel adj l = some ((List.range l.length).map fun i => coll (fun j => IJ adj l i j) l.length, 0) := by
  have hlen := h.len
  unfold graph_Relabel
  rw [bindS (permuted_ok hG hn h), if_pos rfl, bindS (induced_ok hG (by omega) (by omega) h.rng)]

end Pv
