/- Graphs as tables: making, joining, listing; what some vertices induce. -/
import Derived.Test.YtcknmegldjnjjaaPsM
import Derived.Test.YtcknmegldjnjjaaM4
set_option linter.unusedSimpArgs false
set_option linter.unusedVariables false
namespace Pl
open Sx Go M Vc

/-- a table of a relation -/
def Tr (T : List (List Bool)) (n : Nat) (R : Nat → Nat → Prop) : Prop := T.length = n ∧ ∀ i, i < n → ∃ r, T[i]? = some r ∧ r.length = n ∧ ∀ j, j < n → ∃ b : Bool, r[j]? = some b ∧ (b = true ↔ R i j)
theorem Tr.congr {T : List (List Bool)} {n : Nat} {R R' : Nat → Nat → Prop} (h : ∀ i j, i < n → j < n → (R i j ↔ R' i j)) (hT : Tr T n R) : Tr T n R' := by
  refine ⟨hT.1, fun i hi => ?_⟩
  obtain ⟨r, h1, h2, h3⟩ := hT.2 i hi
  exact ⟨r, h1, h2, fun j hj => by obtain ⟨b, h4, h5⟩ := h3 j hj; exact ⟨b, h4, by rw [h5, h i j hi hj]⟩⟩
theorem Tr.blank (n : Nat) : Tr (List.replicate n (List.replicate n false)) n (fun _ _ => False) :=
  ⟨by simp, fun i hi => ⟨List.replicate n false, by simp [hi], by simp, fun j hj => ⟨false, by simp [hj], by simp⟩⟩⟩
theorem Tr.row {T : List (List Bool)} {n : Nat} {R : Nat → Nat → Prop} (hT : Tr T n R) {i : Nat} (hi : i < n) : ∃ r, getI T (i : Int) = some r ∧ T[i]? = some r ∧ r.length = n ∧ ∀ j : Nat, j < n → ∃ b : Bool, getI r (j : Int) = some b ∧ (b = true ↔ R i j) := by
  obtain ⟨r, h1, h2, h3⟩ := hT.2 i hi
  exact ⟨r, h1, h1, h2, fun j hj => h3 j hj⟩
theorem Tr.put {T : List (List Bool)} {n : Nat} {R : Nat → Nat → Prop} (hT : Tr T n R) {i j : Nat} (hi : i < n) {r : List Bool} (hr : T[i]? = some r) {z : Bool} {p : Prop} (hz : z = true ↔ p) : Tr (T.set i (r.set j z)) n (fun a c => (a = i ∧ c = j ∧ p) ∨ (¬ (a = i ∧ c = j) ∧ R a c)) := by
  refine ⟨by simp [hT.1], fun a ha => ?_⟩
  obtain ⟨r', h1, h2, h3⟩ := hT.2 a ha
  by_cases hai : i = a
  · subst hai
    rw [hr] at h1
    obtain rfl := Option.some.inj h1
    refine ⟨r.set j z, by rw [List.getElem?_set, if_pos rfl, if_pos (by rw [hT.1]; exact ha)], by simp [h2], fun c hc => ?_⟩
    obtain ⟨b, h4, h5⟩ := h3 c hc
    rw [List.getElem?_set]
    by_cases hcj : j = c
    · subst hcj
      exact ⟨z, by rw [if_pos rfl, if_pos (by omega)], by rw [hz]; simp⟩
    · exact ⟨b, by rw [if_neg hcj, h4], by rw [h5]; simp [show ¬ c = j from fun h => hcj h.symm]⟩
  · refine ⟨r', by rw [List.getElem?_set, if_neg hai, h1], h2, fun c hc => ?_⟩
    obtain ⟨b, h4, h5⟩ := h3 c hc
    exact ⟨b, h4, by rw [h5]; simp [show ¬ a = i from fun h => hai h.symm]⟩
theorem Tr.on {T : List (List Bool)} {n : Nat} {R : Nat → Nat → Prop} (hT : Tr T n R) {i j : Nat} (hi : i < n) {r : List Bool} (hr : T[i]? = some r) : Tr (T.set i (r.set j true)) n (fun a c => (a = i ∧ c = j) ∨ R a c) := by
  refine Tr.congr (fun a c _ _ => ?_) (hT.put (j := j) hi hr (z := true) (p := True) (by simp))
  by_cases h : a = i ∧ c = j
  · simp [h]
  · simp [h]
open Classical in
theorem Tr.tb {T : List (List Bool)} {n : Nat} {R : Nat → Nat → Prop} (hT : Tr T n R) : Tb T n (fun i j => decide (R i j)) := by
  refine ⟨hT.1, fun i hi => ?_⟩
  obtain ⟨r, h1, h2, h3⟩ := hT.2 i hi
  refine ⟨r, h1, h2, fun j hj => ?_⟩
  obtain ⟨b, h4, h5⟩ := h3 j hj
  rw [h4]
  congr 1
  cases b with
  | true => symm; rw [decide_eq_true_iff]; exact h5.1 rfl
  | false => symm; rw [decide_eq_false_iff_not]; intro h; have := h5.2 h; cases this

theorem newSets_ok {n : Nat} (hn : n ≤ 1000) : graph_NewSets (n : Int) = some (List.replicate n (List.replicate n false)) := by
  refine Ret.eq ?_
  unfold graph_NewSets
  simp only [ret_bind, ret_mkL, ret_some, Int.toNat_natCast]
  refine ⟨by omega, by omega, ?_⟩
  refine ret_loop n (fun k (t : List (List Bool) × Int) => t.2 = k ∧ t.1.length = n ∧ ∀ u, u < k → t.1[u]? = some (List.replicate n false)) ⟨rfl, by simp, fun u h => by omega⟩ ?_
  rintro k ⟨t, i⟩ hk ⟨rfl, h1, h2⟩
  simp only at h1 h2
  unfold graph_NewSets_l1
  have hlen : (List.replicate n ([] : List Bool)).length = n := by simp
  by_cases hkn : k < n
  · have hw : wa .i64 (k : Int) 1 = ((k + 1 : Nat) : Int) := wa1 (by omega)
    have e5 : (k : Int) < (n : Int) := by omega
    simp only [ret_bind, ret_if, ret_get, ret_set, ret_app, ret_mkL, ret_sli, ret_wr, ret_wq, ret_some, vq_l, vq_r, Int.toNat_natCast, if_true, if_false, obs, decide_false, decide_true, Bool.false_eq_true, Bool.not_true, Bool.not_false, not_true_eq_false, not_false_eq_true, true_implies, false_implies, reduceCtorEq, hlen, e5, hw]
    refine ⟨by omega, by omega, by omega, by omega, hkn, trivial, by simp [h1], fun u hu => ?_⟩
    rw [List.getElem?_set]
    by_cases hku : k = u
    · rw [if_pos hku, if_pos (by omega)]
    · rw [if_neg hku]; exact h2 u (by omega)
  · have e5 : ¬ (k : Int) < (n : Int) := by omega
    simp only [ret_bind, ret_if, ret_get, ret_set, ret_app, ret_mkL, ret_sli, ret_wr, ret_wq, ret_some, vq_l, vq_r, Int.toNat_natCast, if_true, if_false, obs, decide_false, decide_true, Bool.false_eq_true, Bool.not_true, Bool.not_false, not_true_eq_false, not_false_eq_true, true_implies, false_implies, reduceCtorEq, hlen, e5]
    apply List.ext_getElem?
    intro u
    by_cases hu : u < n
    · rw [h2 u (by omega)]; simp [hu]
    · rw [List.getElem?_eq_none (by omega), List.getElem?_eq_none (by simp; omega)]

theorem join_ok {T : List (List Bool)} {n : Nat} {R : Nat → Nat → Prop} (hT : Tr T n R) {v w : Nat} (hv : v < n) (hw : w < n) : ∃ T', graph_Sets_Join T (v : Int) (w : Int) = some T' ∧ Tr T' n (fun a c => (v ≠ w ∧ ((a = v ∧ c = w) ∨ (a = w ∧ c = v))) ∨ R a c) := by
  unfold graph_Sets_Join graph_Sets_Join_j1
  by_cases hvw : v = w
  · subst hvw
    exact ⟨T, by rw [if_pos rfl], Tr.congr (fun a c _ _ => by simp) hT⟩
  · rw [if_neg (by omega)]
    obtain ⟨r, g1, g2, g3, _⟩ := hT.row hv
    obtain ⟨r', g1', g2', g3', _⟩ := hT.row hw
    have hT2 := hT.on (j := w) hv g2
    obtain ⟨r2, k1, k2, k3, _⟩ := hT2.row hw
    have hTl := hT.1
    rw [bindS g1, bindS g1', bindS (setI_lt (by omega)), bindS (setI_lt (by omega)), bindS k1, bindS (setI_lt (by omega)), bindS (setI_lt (by simp; omega))]
    exact ⟨_, rfl, Tr.congr (fun a c _ _ => by
      constructor
      · rintro (h | h | h)
        · exact .inl ⟨hvw, .inr h⟩
        · exact .inl ⟨hvw, .inl h⟩
        · exact .inr h
      · rintro (⟨_, h | h⟩ | h)
        · exact .inr (.inl h)
        · exact .inl h
        · exact .inr (.inr h)) (hT2.on (j := v) hw k2)⟩

open Classical in
theorem list_ok {T : List (List Bool)} {n : Nat} {R : Nat → Nat → Prop} (hT : Tr T n R) (hn : n ≤ 1000) {v : Nat} (hv : v < n) : graph_Sets_List T (v : Int) = some (coll (fun w => R v w) n) := by
  obtain ⟨r, g1, g2, g3, g4⟩ := hT.row hv
  refine Ret.eq ?_
  unfold graph_Sets_List
  rw [bindS g1]
  simp only [ret_bind, ret_some]
  refine ret_loop n (fun k (t : List Int × Int) => t.2 = k ∧ t.1 = coll (fun w => R v w) k) ⟨rfl, rfl⟩ ?_
  rintro k ⟨t, i⟩ hk ⟨rfl, rfl⟩
  unfold graph_Sets_List_l3 graph_Sets_List_j4
  have hcl := coll_len (tm := fun w => R v w) k
  by_cases hkn : k < n
  · obtain ⟨b, e1, e2⟩ := g4 k hkn
    have hw : wa .i64 (k : Int) 1 = ((k + 1 : Nat) : Int) := wa1 (by omega)
    have e5 : (k : Int) < (r.length : Int) := by omega
    simp only [ret_bind, ret_if, ret_get, ret_set, ret_app, ret_mkL, ret_sli, ret_wr, ret_wq, ret_some, vq_l, vq_r, Int.toNat_natCast, if_true, if_false, obs, decide_false, decide_true, Bool.false_eq_true, Bool.not_true, Bool.not_false, not_true_eq_false, not_false_eq_true, true_implies, false_implies, reduceCtorEq, e1, e5, hw]
    refine ⟨fun h => ⟨by simp; omega, hkn, trivial, ?_⟩, fun h => ⟨hkn, trivial, ?_⟩⟩
    · rw [coll, if_pos (e2.1 h)]
    · rw [coll, if_neg (fun hh => h (e2.2 hh)), List.append_nil]
  · have e5 : ¬ (k : Int) < (r.length : Int) := by omega
    have : k = n := by omega
    subst this
    simp only [ret_bind, ret_if, ret_get, ret_set, ret_app, ret_mkL, ret_sli, ret_wr, ret_wq, ret_some, vq_l, vq_r, Int.toNat_natCast, if_true, if_false, obs, decide_false, decide_true, Bool.false_eq_true, Bool.not_true, Bool.not_false, not_true_eq_false, not_false_eq_true, true_implies, false_implies, reduceCtorEq, e5]

open Classical in
theorem sgraph_ok {T : List (List Bool)} {n : Nat} {R : Nat → Nat → Prop} (hT : Tr T n R) (hn : n ≤ 1000) : graph_Sets_Graph T = some ((List.range n).map fun v => coll (fun w => R v w) n) := by
  refine Ret.eq ?_
  have hTl := hT.1
  unfold graph_Sets_Graph
  simp only [ret_bind, ret_mkL, ret_some, Int.toNat_natCast]
  refine ⟨by omega, by omega, ?_⟩
  refine ret_loop n (fun k (t : List (List Int) × Int) => t.2 = k ∧ t.1.length = n ∧ ∀ u, u < k → t.1[u]? = some (coll (fun w => R u w) n)) ⟨rfl, by simp [hTl], fun u h => by omega⟩ ?_
  rintro k ⟨t, i⟩ hk ⟨rfl, h1, h2⟩
  simp only at h1 h2
  unfold graph_Sets_Graph_l1
  by_cases hkn : k < n
  · have hw : wa .i64 (k : Int) 1 = ((k + 1 : Nat) : Int) := wa1 (by omega)
    have e5 : (k : Int) < (T.length : Int) := by omega
    simp only [ret_bind, ret_if, ret_get, ret_set, ret_app, ret_mkL, ret_sli, ret_wr, ret_wq, ret_some, vq_l, vq_r, Int.toNat_natCast, if_true, if_false, obs, decide_false, decide_true, Bool.false_eq_true, Bool.not_true, Bool.not_false, not_true_eq_false, not_false_eq_true, true_implies, false_implies, reduceCtorEq, e5, hw, list_ok hT hn hkn]
    refine ⟨by omega, by omega, hkn, trivial, by simp [h1], fun u hu => ?_⟩
    rw [List.getElem?_set]
    by_cases hku : k = u
    · subst hku; rw [if_pos rfl, if_pos (by omega)]
    · rw [if_neg hku]; exact h2 u (by omega)
  · have e5 : ¬ (k : Int) < (T.length : Int) := by omega
    simp only [ret_bind, ret_if, ret_get, ret_set, ret_app, ret_mkL, ret_sli, ret_wr, ret_wq, ret_some, vq_l, vq_r, Int.toNat_natCast, if_true, if_false, obs, decide_false, decide_true, Bool.false_eq_true, Bool.not_true, Bool.not_false, not_true_eq_false, not_false_eq_true, true_implies, false_implies, reduceCtorEq, e5]
    apply List.ext_getElem?
    intro u
    by_cases hu : u < n
    · rw [h2 u (by omega)]; simp [hu]
    · rw [List.getElem?_eq_none (by omega), List.getElem?_eq_none (by simp; omega)]

/-- l[i] and l[j] are neighbours -/
def IJ (adj : List (List Int)) (l : List Int) (i j : Nat) : Prop := ∃ (x y : Int), l[i]? = some x ∧ l[j]? = some y ∧ nbp adj x.toNat y.toNat
theorem IJ.sym {adj : List (List Int)} (hG : Gr adj) {l : List Int} {i j : Nat} (h : IJ adj l i j) : IJ adj l j i := by
  obtain ⟨x, y, h1, h2, h3⟩ := h
  exact ⟨y, x, h2, h1, nbp_sym hG h3⟩
theorem IJ.ne {adj : List (List Int)} (hG : Gr adj) {l : List Int} {i : Nat} (h : IJ adj l i i) : False := by
  obtain ⟨x, y, h1, h2, l', h3, h4⟩ := h
  rw [h1] at h2
  obtain rfl := Option.some.inj h2
  have := (hG.rng _ _ _ h3 h4).2.2
  omega

open Classical in
theorem induced_ok {adj : List (List Int)} (hG : Gr adj) (hn : adj.length ≤ 200) {l : List Int} (hl : l.length ≤ 200) (hr : ∀ x, x ∈ l → 0 ≤ x ∧ x < adj.length) : graph_induced adj l = some ((List.range l.length).map fun i => coll (fun j => IJ adj l i j) l.length) := by
  refine Ret.eq ?_
  unfold graph_induced
  rw [bindS (newSets_ok (by omega))]
  simp only [ret_bind]
  refine ret_call (P := fun T => Tr T l.length (IJ adj l)) ?_ (fun T hT => by rw [ret_of (sgraph_ok hT (by omega)), ret_some])
  refine ret_loop l.length (fun k (t : List (List Bool) × Int) => t.2 = k ∧ Tr t.1 l.length (fun i j => i < k ∧ j < k ∧ IJ adj l i j)) ⟨rfl, Tr.congr (fun i j _ _ => by simp) (Tr.blank _)⟩ ?_
  rintro k ⟨T, i⟩ hk ⟨rfl, hT⟩
  simp only at hT
  unfold graph_induced_l9
  by_cases hkl : k < l.length
  · obtain ⟨x, hx⟩ : ∃ x, l[k]? = some x := ⟨l[k], by simp [hkl]⟩
    have e1 : getI l (k : Int) = some x := hx
    have hxr := hr x (mem_get hx)
    have hgx : adj[x.toNat]? = some (adj[x.toNat]'(by omega)) := by simp [show x.toNat < adj.length by omega]
    have hgl := hG.len hgx
    have hw : wa .i64 (k : Int) 1 = ((k + 1 : Nat) : Int) := wa1 (by omega)
    have e5 : (k : Int) < (l.length : Int) := by omega
    simp only [ret_bind, ret_if, ret_get, ret_set, ret_app, ret_mkL, ret_sli, ret_wr, ret_wq, ret_some, vq_l, vq_r, Int.toNat_natCast, if_true, if_false, obs, decide_false, decide_true, Bool.false_eq_true, Bool.not_true, Bool.not_false, not_true_eq_false, not_false_eq_true, true_implies, false_implies, reduceCtorEq, e1, e5]
    refine ⟨by omega, by omega, by omega, ?_⟩
    have hz : (0 : Int).toNat = 0 := rfl
    rw [hz, List.drop_zero]
    refine ret_call (P := fun T' => Tr T' l.length (fun i j => (i < k ∧ j < k ∧ IJ adj l i j) ∨ (i = k ∧ j < k ∧ IJ adj l k j) ∨ (j = k ∧ i < k ∧ IJ adj l k i))) ?_ ?_
    · refine ret_loop k (fun m (t : List (List Bool) × Int) => t.2 = m ∧ Tr t.1 l.length (fun i j => (i < k ∧ j < k ∧ IJ adj l i j) ∨ (i = k ∧ j < m ∧ IJ adj l k j) ∨ (j = k ∧ i < m ∧ IJ adj l k i))) ⟨rfl, Tr.congr (fun i j _ _ => by simp) hT⟩ ?_
      rintro m ⟨T, i⟩ hm ⟨rfl, hT⟩
      simp only at hT
      unfold graph_induced_l12 graph_induced_j13
      have htl : (l.take k).length = k := by simp; omega
      by_cases hmk : m < k
      · obtain ⟨y, hy⟩ : ∃ y, l[m]? = some y := ⟨l[m]'(by omega), by simp [show m < l.length by omega]⟩
        have hy' : (l.take k)[m]? = some y := by rw [List.getElem?_take, if_pos hmk, hy]
        have e2 : getI (l.take k) (m : Int) = some y := hy'
        have hyr := hr y (mem_get hy)
        have e3 := joined_ok hG (getI_of hxr.1 hgx) hxr.1 (by omega) y
        have e6 : (m : Int) < ((l.take k).length : Int) := by omega
        have hw2 : wa .i64 (m : Int) 1 = ((m + 1 : Nat) : Int) := wa1 (by omega)
        have hiff : y ∈ adj[x.toNat]'(by omega) ↔ IJ adj l k m := by
          constructor
          · intro h
            exact ⟨x, y, hx, hy, _, hgx, by rwa [show ((y.toNat : Nat) : Int) = y by omega]⟩
          · rintro ⟨x', y', h1, h2, l', h3, h4⟩
            rw [hx] at h1; rw [hy] at h2
            obtain rfl := Option.some.inj h1
            obtain rfl := Option.some.inj h2
            rw [hgx] at h3
            obtain rfl := Option.some.inj h3
            rwa [show ((y.toNat : Nat) : Int) = y by omega] at h4
        simp only [ret_bind, ret_if, ret_get, ret_set, ret_app, ret_mkL, ret_sli, ret_wr, ret_wq, ret_some, vq_l, vq_r, Int.toNat_natCast, if_true, if_false, obs, decide_false, decide_true, Bool.false_eq_true, Bool.not_true, Bool.not_false, not_true_eq_false, not_false_eq_true, true_implies, false_implies, reduceCtorEq, e2, e3, e6, hw2]
        refine ⟨fun h => ?_, fun h => ⟨hmk, trivial, Tr.congr (fun i j _ _ => ?_) hT⟩⟩
        · have hJ := hiff.1 (by simpa using h)
          obtain ⟨T', j1, j2⟩ := join_ok hT hkl (show m < l.length by omega)
          rw [ret_of j1]
          refine ⟨hmk, trivial, Tr.congr (fun i j _ _ => ?_) j2⟩
          constructor
          · rintro (⟨_, ⟨rfl, rfl⟩ | ⟨rfl, rfl⟩⟩ | h | h | h)
            · exact .inr (.inl ⟨rfl, by omega, hJ⟩)
            · exact .inr (.inr ⟨rfl, by omega, hJ⟩)
            · exact .inl h
            · exact .inr (.inl ⟨h.1, by omega, h.2.2⟩)
            · exact .inr (.inr ⟨h.1, by omega, h.2.2⟩)
          · rintro (h | ⟨rfl, h1, h2⟩ | ⟨rfl, h1, h2⟩)
            · exact .inr (.inl h)
            · by_cases hjm : j = m
              · subst hjm; exact .inl ⟨by omega, .inl ⟨rfl, rfl⟩⟩
              · exact .inr (.inr (.inl ⟨rfl, by omega, h2⟩))
            · by_cases him : i = m
              · subst him; exact .inl ⟨by omega, .inr ⟨rfl, rfl⟩⟩
              · exact .inr (.inr (.inr ⟨rfl, by omega, h2⟩))
        · have hJ : ¬ IJ adj l k m := fun hh => h (by simpa using hiff.2 hh)
          constructor
          · rintro (h | h | h)
            · exact .inl h
            · exact .inr (.inl ⟨h.1, by omega, h.2.2⟩)
            · exact .inr (.inr ⟨h.1, by omega, h.2.2⟩)
          · rintro (h | ⟨rfl, h1, h2⟩ | ⟨rfl, h1, h2⟩)
            · exact .inl h
            · by_cases hjm : j = m
              · subst hjm; exact absurd h2 hJ
              · exact .inr (.inl ⟨rfl, by omega, h2⟩)
            · by_cases him : i = m
              · subst him; exact absurd h2 hJ
              · exact .inr (.inr ⟨rfl, by omega, h2⟩)
      · have e6 : ¬ (m : Int) < ((l.take k).length : Int) := by omega
        have : m = k := by omega
        subst this
        simp only [ret_bind, ret_if, ret_get, ret_set, ret_app, ret_mkL, ret_sli, ret_wr, ret_wq, ret_some, vq_l, vq_r, Int.toNat_natCast, if_true, if_false, obs, decide_false, decide_true, Bool.false_eq_true, Bool.not_true, Bool.not_false, not_true_eq_false, not_false_eq_true, true_implies, false_implies, reduceCtorEq, e6]
        exact hT
    · intro T' hT'
      refine ⟨hkl, hw, Tr.congr (fun i j _ _ => ?_) hT'⟩
      constructor
      · rintro (h | ⟨rfl, h1, h2⟩ | ⟨rfl, h1, h2⟩)
        · exact ⟨by omega, by omega, h.2.2⟩
        · exact ⟨by omega, by omega, h2⟩
        · exact ⟨by omega, by omega, h2.sym hG⟩
      · rintro ⟨h1, h2, h3⟩
        by_cases hik : i = k
        · subst hik
          by_cases hjk : j = i
          · subst hjk; exact (h3.ne hG).elim
          · exact .inr (.inl ⟨rfl, by omega, h3⟩)
        · by_cases hjk : j = k
          · subst hjk; exact .inr (.inr ⟨rfl, by omega, h3.sym hG⟩)
          · exact .inl ⟨by omega, by omega, h3⟩
  · have e5 : ¬ (k : Int) < (l.length : Int) := by omega
    simp only [ret_bind, ret_if, ret_get, ret_set, ret_app, ret_mkL, ret_sli, ret_wr, ret_wq, ret_some, vq_l, vq_r, Int.toNat_natCast, if_true, if_false, obs, decide_false, decide_true, Bool.false_eq_true, Bool.not_true, Bool.not_false, not_true_eq_false, not_false_eq_true, true_implies, false_implies, reduceCtorEq, e5]
    exact Tr.congr (fun i j hi hj => ⟨fun h => h.2.2, fun h => ⟨by omega, by omega, h⟩⟩) hT
end Pl
