/- Relabelling by the program (as in PtD, PtWL, PtE, for this seat). -/
import Derived.Test.YtcknmegldjnjjaaGreatDoorPn2
set_option linter.unusedSimpArgs false
set_option linter.unusedVariables false
namespace Px
open Pu Pl Sx Go M Vc
open Pw (coll coll_mem coll_asc coll_len newSets_ok join_ok list_ok sgraph_ok coll_gr coll_memx)

def nbp (adj : List (List Int)) (v w : Nat) : Prop := ∃ l, adj[v]? = some l ∧ (w : Int) ∈ l
theorem nbp_sym {adj : List (List Int)} (hG : Gr adj) {v w : Nat} (h : nbp adj v w) : nbp adj w v := by
  obtain ⟨l, h1, h2⟩ := h
  obtain ⟨m, h3, h4⟩ := hG.sym v l _ h1 h2
  exact ⟨m, by simpa using h3, h4⟩
theorem asc_of {m : List Int} (h1 : m.Pairwise (· ≤ ·)) (h2 : m.Nodup) : m.Pairwise (· < ·) := by
  rw [List.pairwise_iff_getElem] at h1 ⊢
  intro i j hi hj hij
  have := h1 i j hi hj hij
  by_cases he : m[i] = m[j]
  · have := nodup_inj h2 he; omega
  · omega

/-- l[i] and l[j] are neighbours -/
def IJ (adj : List (List Int)) (l : List Int) (i j : Nat) : Prop := ∃ (x y : Int), l[i]? = some x ∧ l[j]? = some y ∧ nbp adj x.toNat y.toNat
theorem IJ.sym {adj : List (List Int)} (hG : Gr adj) {l : List Int} {i j : Nat} (h : IJ adj l i j) : IJ adj l j i := by
  obtain ⟨x, y, h1, h2, h3⟩ := h
  exact ⟨y, x, h2, h1, nbp_sym hG h3⟩
theorem IJ.ne {adj : List (List Int)} (hG : Gr adj) {l : List Int} {i : Nat} (h : IJ adj l i i) : False := by
  obtain ⟨x, y, h1, h2, l', h3, h4⟩ := h
  rw [h1] at h2
  obtain rfl := Option.some.inj h2
  have := (hG.rng _ _ _ h3 h4).2.2
  omega

open Classical in
theorem induced_ok {adj : List (List Int)} (hG : Gr adj) (hn : adj.length ≤ 200) {l : List Int} (hl : l.length ≤ 200) (hr : ∀ x, x ∈ l → 0 ≤ x ∧ x < adj.length) : graph_induced adj l = some ((List.range l.length).map fun i => coll (fun j => IJ adj l i j) l.length) := by
  refine Ret.eq ?_
  unfold graph_induced
  rw [bindS (newSets_ok (by omega))]
  simp only [ret_bind]
  refine ret_call (P := fun T => Tr T l.length (IJ adj l)) ?_ (fun T hT => by rw [ret_of (sgraph_ok hT (by omega)), ret_some])
  refine ret_loop l.length (fun k (t : List (List Bool) × Int) => t.2 = k ∧ Tr t.1 l.length (fun i j => i < k ∧ j < k ∧ IJ adj l i j)) ⟨rfl, Tr.congr (fun i j _ _ => by simp) (Tr.blank _)⟩ ?_
  rintro k ⟨T, i⟩ hk ⟨rfl, hT⟩
  simp only at hT
  unfold graph_induced_l9
  by_cases hkl : k < l.length
  · obtain ⟨x, hx⟩ : ∃ x, l[k]? = some x := ⟨l[k], by simp [hkl]⟩
    have e1 : getI l (k : Int) = some x := hx
    have hxr := hr x (mem_get hx)
    have hgx : adj[x.toNat]? = some (adj[x.toNat]'(by omega)) := by simp [show x.toNat < adj.length by omega]
    have hgl := hG.len hgx
    have hw : wa .i64 (k : Int) 1 = ((k + 1 : Nat) : Int) := wa1 (by omega)
    have e5 : (k : Int) < (l.length : Int) := by omega
    simp only [ret_bind, ret_if, ret_get, ret_set, ret_app, ret_mkL, ret_sli, ret_wr, ret_wq, ret_some, vq_l, vq_r, Int.toNat_natCast, if_true, if_false, obs, decide_false, decide_true, Bool.false_eq_true, Bool.not_true, Bool.not_false, not_true_eq_false, not_false_eq_true, true_implies, false_implies, reduceCtorEq, e1, e5]
    refine ⟨by omega, by omega, by omega, ?_⟩
    have hz : (0 : Int).toNat = 0 := rfl
    rw [hz, List.drop_zero]
    refine ret_call (P := fun T' => Tr T' l.length (fun i j => (i < k ∧ j < k ∧ IJ adj l i j) ∨ (i = k ∧ j < k ∧ IJ adj l k j) ∨ (j = k ∧ i < k ∧ IJ adj l k i))) ?_ ?_
    · refine ret_loop k (fun m (t : List (List Bool) × Int) => t.2 = m ∧ Tr t.1 l.length (fun i j => (i < k ∧ j < k ∧ IJ adj l i j) ∨ (i = k ∧ j < m ∧ IJ adj l k j) ∨ (j = k ∧ i < m ∧ IJ adj l k i))) ⟨rfl, Tr.congr (fun i j _ _ => by simp) hT⟩ ?_
      rintro m ⟨T, i⟩ hm ⟨rfl, hT⟩
      simp only at hT
      unfold graph_induced_l12 graph_induced_j13
      have htl : (l.take k).length = k := by simp; omega
      by_cases hmk : m < k
      · obtain ⟨y, hy⟩ : ∃ y, l[m]? = some y := ⟨l[m]'(by omega), by simp [show m < l.length by omega]⟩
        have hy' : (l.take k)[m]? = some y := by rw [List.getElem?_take, if_pos hmk, hy]
        have e2 : getI (l.take k) (m : Int) = some y := hy'
        have hyr := hr y (mem_get hy)
        have e3 := joined_ok hG (getI_of hxr.1 hgx) hxr.1 (by omega) y
        have e6 : (m : Int) < ((l.take k).length : Int) := by omega
        have hw2 : wa .i64 (m : Int) 1 = ((m + 1 : Nat) : Int) := wa1 (by omega)
        have hiff : y ∈ adj[x.toNat]'(by omega) ↔ IJ adj l k m := by
          constructor
          · intro h
            exact ⟨x, y, hx, hy, _, hgx, by rwa [show ((y.toNat : Nat) : Int) = y by omega]⟩
          · rintro ⟨x', y', h1, h2, l', h3, h4⟩
            rw [hx] at h1; rw [hy] at h2
            obtain rfl := Option.some.inj h1
            obtain rfl := Option.some.inj h2
            rw [hgx] at h3
            obtain rfl := Option.some.inj h3
            rwa [show ((y.toNat : Nat) : Int) = y by omega] at h4
        simp only [ret_bind, ret_if, ret_get, ret_set, ret_app, ret_mkL, ret_sli, ret_wr, ret_wq, ret_some, vq_l, vq_r, Int.toNat_natCast, if_true, if_false, obs, decide_false, decide_true, Bool.false_eq_true, Bool.not_true, Bool.not_false, not_true_eq_false, not_false_eq_true, true_implies, false_implies, reduceCtorEq, e2, e3, e6, hw2]
        refine ⟨fun h => ?_, fun h => ⟨hmk, trivial, Tr.congr (fun i j _ _ => ?_) hT⟩⟩
        · have hJ := hiff.1 (by simpa using h)
          obtain ⟨T', j1, j2⟩ := join_ok hT hkl (show m < l.length by omega)
          rw [ret_of j1]
          refine ⟨hmk, trivial, Tr.congr (fun i j _ _ => ?_) j2⟩
          constructor
          · rintro (⟨_, ⟨rfl, rfl⟩ | ⟨rfl, rfl⟩⟩ | h | h | h)
            · exact .inr (.inl ⟨rfl, by omega, hJ⟩)
            · exact .inr (.inr ⟨rfl, by omega, hJ⟩)
            · exact .inl h
            · exact .inr (.inl ⟨h.1, by omega, h.2.2⟩)
            · exact .inr (.inr ⟨h.1, by omega, h.2.2⟩)
          · rintro (h | ⟨rfl, h1, h2⟩ | ⟨rfl, h1, h2⟩)
            · exact .inr (.inl h)
            · by_cases hjm : j = m
              · subst hjm; exact .inl ⟨by omega, .inl ⟨rfl, rfl⟩⟩
              · exact .inr (.inr (.inl ⟨rfl, by omega, h2⟩))
            · by_cases him : i = m
              · subst him; exact .inl ⟨by omega, .inr ⟨rfl, rfl⟩⟩
              · exact .inr (.inr (.inr ⟨rfl, by omega, h2⟩))
        · have hJ : ¬ IJ adj l k m := fun hh => h (by simpa using hiff.2 hh)
          constructor
          · rintro (h | h | h)
            · exact .inl h
            · exact .inr (.inl ⟨h.1, by omega, h.2.2⟩)
            · exact .inr (.inr ⟨h.1, by omega, h.2.2⟩)
          · rintro (h | ⟨rfl, h1, h2⟩ | ⟨rfl, h1, h2⟩)
            · exact .inl h
            · by_cases hjm : j = m
              · subst hjm; exact absurd h2 hJ
              · exact .inr (.inl ⟨rfl, by omega, h2⟩)
            · by_cases him : i = m
              · subst him; exact absurd h2 hJ
              · exact .inr (.inr ⟨rfl, by omega, h2⟩)
      · have e6 : ¬ (m : Int) < ((l.take k).length : Int) := by omega
        have : m = k := by omega
        subst this
        simp only [ret_bind, ret_if, ret_get, ret_set, ret_app, ret_mkL, ret_sli, ret_wr, ret_wq, ret_some, vq_l, vq_r, Int.toNat_natCast, if_true, if_false, obs, decide_false, decide_true, Bool.false_eq_true, Bool.not_true, Bool.not_false, not_true_eq_false, not_false_eq_true, true_implies, false_implies, reduceCtorEq, e6]
        exact hT
    · intro T' hT'
      refine ⟨hkl, hw, Tr.congr (fun i j _ _ => ?_) hT'⟩
      constructor
      · rintro (h | ⟨rfl, h1, h2⟩ | ⟨rfl, h1, h2⟩)
        · exact ⟨by omega, by omega, h.2.2⟩
        · exact ⟨by omega, by omega, h2⟩
        · exact ⟨by omega, by omega, h2.sym hG⟩
      · rintro ⟨h1, h2, h3⟩
        by_cases hik : i = k
        · subst hik
          by_cases hjk : j = i
          · subst hjk; exact (h3.ne hG).elim
          · exact .inr (.inl ⟨rfl, by omega, h3⟩)
        · by_cases hjk : j = k
          · subst hjk; exact .inr (.inr ⟨rfl, by omega, h3.sym hG⟩)
          · exact .inl ⟨by omega, by omega, h3⟩
  · have e5 : ¬ (k : Int) < (l.length : Int) := by omega
    simp only [ret_bind, ret_if, ret_get, ret_set, ret_app, ret_mkL, ret_sli, ret_wr, ret_wq, ret_some, vq_l, vq_r, Int.toNat_natCast, if_true, if_false, obs, decide_false, decide_true, Bool.false_eq_true, Bool.not_true, Bool.not_false, not_true_eq_false, not_false_eq_true, true_implies, false_implies, reduceCtorEq, e5]
    exact Tr.congr (fun i j hi hj => ⟨fun h => h.2.2, fun h => ⟨by omega, by omega, h⟩⟩) hT

/-- whether an element stands twice, by the library's sort and compaction -/
theorem compact_iff {m : List Int} (hs : m.Pairwise (· ≤ ·)) : (Go.Lib.compact m).length < m.length ↔ ¬ m.Nodup := by
  have hlen : (Go.Lib.compact m).length = ((List.range m.length).filter (Go.Lib.keeps m.toArray)).length := by
    unfold Go.Lib.compact Go.Lib.compactUpTo
    rw [List.length_map]
  have hk : ∀ j, j < m.length → (Go.Lib.keeps m.toArray j = true ↔ j = 0 ∨ m[j]! ≠ m[j - 1]!) := by
    intro j hj
    unfold Go.Lib.keeps
    simp
  constructor
  · intro h hn
    have hasc := asc_of hs hn
    have hall : ∀ j, j < m.length → Go.Lib.keeps m.toArray j = true := by
      intro j hj
      rw [hk j hj]
      by_cases h0 : j = 0
      · exact .inl h0
      · right
        have := asc_get hasc hj (i := j - 1) (by omega)
        rw [getElem!_pos m j hj, getElem!_pos m (j - 1) (by omega)]
        omega
    have := Go.Lib.compact_all m hall
    rw [this] at h
    omega
  · intro hn
    have hex : ∃ j, j < m.length ∧ Go.Lib.keeps m.toArray j ≠ true := by
      refine Classical.byContradiction fun hno => hn ?_
      have hall : ∀ j (hj : j + 1 < m.length), m[j] < m[j + 1] := by
        intro j hj
        have h1 : Go.Lib.keeps m.toArray (j + 1) = true := Classical.byContradiction fun h => hno ⟨j + 1, hj, h⟩
        rw [hk _ hj] at h1
        have h2 := h1.resolve_left (by omega)
        rw [getElem!_pos m (j + 1) hj, getElem!_pos m (j + 1 - 1) (by omega)] at h2
        have h3 := List.pairwise_iff_getElem.1 hs j (j + 1) (by omega) hj (by omega)
        have h4 : m[j + 1 - 1] = m[j] := by congr 1
        omega
      have hlt : ∀ d i (h : i + 1 + d < m.length), m[i] < m[i + 1 + d] := by
        intro d
        induction d with
        | zero => intro i h; exact hall i h
        | succ d ih =>
          intro i h
          have h1 := ih i (by omega)
          have h2 := hall (i + 1 + d) (by omega)
          have h3 : m[i + 1 + (d + 1)] = m[i + 1 + d + 1] := by congr 1
          omega
      rw [List.nodup_iff_pairwise_ne, List.pairwise_iff_getElem]
      intro i j hi hj hij
      have := hlt (j - i - 1) i (by omega)
      have h3 : m[i + 1 + (j - i - 1)]'(by omega) = m[j] := by congr 1; omega
      omega
    obtain ⟨j, hj, hkj⟩ := hex
    rw [hlen]
    have h1 := List.length_filter_lt_length_iff_exists.2 (⟨j, List.mem_range.2 hj, hkj⟩ : ∃ x, x ∈ List.range m.length ∧ ¬ Go.Lib.keeps m.toArray x = true)
    simpa using h1

theorem twice_e {l : List Int} (hl : l.length ≤ 100000) : graph_twice l = some (decide (¬ l.Nodup)) := by
  have hp := isortI_perm l
  have hs := isortI_sorted l
  have hlen := hp.length_eq
  have h1 := compact_iff hs
  rw [hlen, hp.nodup_iff] at h1
  have e1 : sortI l = some (isortI l) := by unfold sortI BIG; rw [if_pos (by omega)]
  have e2 : compactI (isortI l) = some (Go.Lib.compact (isortI l)) := by unfold compactI BIG; rw [if_pos (by omega)]
  have e3 : colV l = some l := by unfold colV BIG; rw [if_pos (by omega)]
  unfold graph_twice slices_Values_int slices_Sorted_int slices_Collect_int
  simp only [obs, e1, e2, e3]
  congr 1
  rw [decide_eq_decide, ← h1]
  omega
theorem twice_ok {l : List Int} {n : Nat} (hn : n ≤ 12) (h : Pm l n) : graph_twice l = some false := by
  rw [twice_e (by have := h.len; omega), decide_eq_false (fun hh => hh h.nd)]

theorem permuted_ok {adj : List (List Int)} (hG : Gr adj) (hn : adj.length ≤ 12) {l : List Int} (h : Pm l adj.length) : graph_Permuted adj l = some 0 := by
  have hlen := h.len
  have hc : slices_ContainsFunc_int l adj = some false := by
    unfold slices_ContainsFunc_int
    have : slices_IndexFunc_int l adj = some (-1) := by
      refine Ret.eq ?_
      unfold slices_IndexFunc_int
      rw [ret_bind]
      refine ret_call (P := fun o => o = .inl ()) ?_ (by rintro _ rfl; rw [ret_some])
      refine ret_loop l.length (fun k (t : Int) => t = (k : Int)) rfl ?_
      rintro k t hk rfl
      unfold slices_IndexFunc_int_l1 graph_Permuted_1 graph_vertex
      by_cases hkl : k < l.length
      · have hx := h.rng _ (List.getElem_mem hkl)
        have e1 : getI l (k : Int) = some l[k] := getI_lt hkl
        have e5 : (k : Int) < (l.length : Int) := by omega
        have hw : wa .i64 (k : Int) 1 = ((k + 1 : Nat) : Int) := wa1 (by omega)
        have e6 : (decide (0 ≤ l[k]) && decide (l[k] < (adj.length : Int))) = true := by simp; omega
        simp only [ret_bind, ret_if, ret_get, ret_set, ret_app, ret_mkL, ret_sli, ret_wr, ret_wq, ret_some, vq_l, vq_r, Int.toNat_natCast, if_true, if_false, obs, decide_false, decide_true, Bool.false_eq_true, Bool.not_true, Bool.not_false, not_true_eq_false, not_false_eq_true, true_implies, false_implies, reduceCtorEq, e1, e5, e6, hw]
        exact ⟨by omega, trivial⟩
      · have e5 : ¬ (k : Int) < (l.length : Int) := by omega
        simp only [ret_bind, ret_if, ret_get, ret_set, ret_app, ret_mkL, ret_sli, ret_wr, ret_wq, ret_some, vq_l, vq_r, Int.toNat_natCast, if_true, if_false, obs, decide_false, decide_true, Bool.false_eq_true, Bool.not_true, Bool.not_false, not_true_eq_false, not_false_eq_true, true_implies, false_implies, reduceCtorEq, e5]
    rw [bindS this, decide_eq_false (by omega)]
  unfold graph_Permuted
  rw [bindS (graphCheck_ok hG (by omega)), if_pos rfl, if_pos (by omega), bindS hc]
  simp only [Bool.false_eq_true, if_false, Option.bind_some, twice_ok hn h]

open Classical in
theorem relabel_ok {adj : List (List Int)} (hG : Gr adj) (hn : adj.length ≤ 12) {l : List Int} (h : Pm l adj.length) : graph_Relabel adj l = some ((List.range l.length).map fun i => coll (fun j => IJ adj l i j) l.length, 0) := by
  have hlen := h.len
  unfold graph_Relabel
  rw [bindS (permuted_ok hG hn h), if_pos rfl, bindS (induced_ok hG (by omega) (by omega) h.rng)]

end Px
/- The law on the graph of a pattern. -/
set_option linter.unusedSimpArgs false
set_option linter.unusedVariables false
namespace Px
open Pu Pl Sx Go M Vc
open Pw (coll coll_mem coll_asc coll_len newSets_ok join_ok list_ok sgraph_ok coll_gr coll_memx)

theorem er_step {l : List En3} {k : Nat} {e : En3} (h : l[k]? = some e) {v w : Nat} (hv : e.1 = (v : Int)) (hw : e.2.1 = (w : Int)) (i j : Nat) : En (l.take (k + 1)) i j ↔ En (l.take k) i j ∨ (i = v ∧ j = w) := by
  unfold En
  constructor
  · rintro ⟨x, hx, h1, h2⟩
    rw [mts h] at hx
    rcases hx with hx | rfl
    · exact .inl ⟨x, hx, h1, h2⟩
    · exact .inr ⟨by omega, by omega⟩
  · rintro (⟨x, hx, h1, h2⟩ | ⟨rfl, rfl⟩)
    · exact ⟨x, (mts h).2 (.inl hx), h1, h2⟩
    · exact ⟨e, (mts h).2 (.inr rfl), hv, hw⟩

theorem fm_p {l : List En3} {n : Nat} (hl : l.length ≤ 100000) (hr : ∀ e, e ∈ l → Bd n n e) :
    Ret (loop (graph_FromMatrix_l1 l) (List.replicate n (List.replicate n false), 0)) (fun T => Tr T n (fun i j => i ≠ j ∧ (En l i j ∨ En l j i))) := by
  refine ret_loop l.length (fun k (t : List (List Bool) × Int) => t.2 = k ∧ Tr t.1 n (fun i j => i ≠ j ∧ (En (l.take k) i j ∨ En (l.take k) j i))) ⟨rfl, Tr.congr (fun i j _ _ => by simp [En]) (Tr.blank n)⟩ ?_
  rintro k ⟨T, i⟩ hk ⟨rfl, hT⟩
  simp only at hT
  unfold graph_FromMatrix_l1
  by_cases hkl : k < l.length
  · obtain ⟨x, hx⟩ : ∃ x, l[k]? = some x := ⟨l[k], by simp [hkl]⟩
    obtain ⟨⟨a1, a2⟩, b1, b2⟩ := hr x (mem_get hx)
    obtain ⟨v, hv⟩ := Int.eq_ofNat_of_zero_le a1
    obtain ⟨w, hw'⟩ := Int.eq_ofNat_of_zero_le b1
    obtain ⟨T', j1, j2⟩ := join_ok hT (show v < n by omega) (show w < n by omega)
    have e1 : getI l (k : Int) = some x := hx
    have e5 : (k : Int) < (l.length : Int) := by omega
    have hw : wa .i64 (k : Int) 1 = ((k + 1 : Nat) : Int) := wa1 (by omega)
    simp only [ret_bind, ret_if, ret_get, ret_set, ret_app, ret_mkL, ret_sli, ret_wr, ret_wq, ret_some, vq_l, vq_r, Int.toNat_natCast, if_true, if_false, obs, decide_false, decide_true, Bool.false_eq_true, Bool.not_true, Bool.not_false, not_true_eq_false, not_false_eq_true, true_implies, false_implies, reduceCtorEq, true_and, and_true, false_and, or_false, false_or, implies_true, e1, e5, hw, hv, hw', j1]
    refine ⟨hkl, Tr.congr (fun i j _ _ => ?_) j2⟩
    rw [er_step hx hv hw', er_step hx hv hw']
    constructor
    · rintro (⟨h1, ⟨rfl, rfl⟩ | ⟨rfl, rfl⟩⟩ | ⟨h1, h2⟩)
      · exact ⟨h1, .inl (.inr ⟨rfl, rfl⟩)⟩
      · exact ⟨fun h => h1 h.symm, .inr (.inr ⟨rfl, rfl⟩)⟩
      · exact ⟨h1, h2.imp .inl .inl⟩
    · rintro ⟨h1, (h | ⟨rfl, rfl⟩) | (h | ⟨rfl, rfl⟩)⟩
      · exact .inr ⟨h1, .inl h⟩
      · exact .inl ⟨h1, .inl ⟨rfl, rfl⟩⟩
      · exact .inr ⟨h1, .inr h⟩
      · exact .inl ⟨fun h => h1 h.symm, .inr ⟨rfl, rfl⟩⟩
  · have e5 : ¬ (k : Int) < (l.length : Int) := by omega
    simp only [ret_bind, ret_if, ret_get, ret_set, ret_app, ret_mkL, ret_sli, ret_wr, ret_wq, ret_some, vq_l, vq_r, Int.toNat_natCast, if_true, if_false, obs, decide_false, decide_true, Bool.false_eq_true, Bool.not_true, Bool.not_false, not_true_eq_false, not_false_eq_true, true_implies, false_implies, reduceCtorEq, true_and, and_true, false_and, or_false, false_or, implies_true, e5]
    rwa [take_all (by omega)] at hT

/-- the graph of a pattern -/
structure Fg (adj : List (List Int)) (l : List En3) (n : Nat) : Prop where
  gr : Gr adj
  len : adj.length = n
  nb : ∀ (v w : Nat), v < n → w < n → ∀ ll, adj[v]? = some ll → ((w : Int) ∈ ll ↔ v ≠ w ∧ (En l v w ∨ En l w v))
theorem fg_ext {a b : List (List Int)} {l l' : List En3} {n : Nat} (ha : Fg a l n) (hb : Fg b l' n) (h : ∀ v w, v < n → w < n → (v ≠ w ∧ (En l v w ∨ En l w v) ↔ v ≠ w ∧ (En l' v w ∨ En l' w v))) : a = b := by
  have h1 := ha.len
  have h2 := hb.len
  exact gr_ext ha.gr hb.gr (by omega) fun v w k k' hv hw e1 e2 => by
    rw [ha.nb v w (by omega) (by omega) _ e1, hb.nb v w (by omega) (by omega) _ e2]
    exact h v w (by omega) (by omega)

open Classical in
theorem fromMatrix_ok {n : Nat} (hn : n ≤ 50) {s i v : List Int} {l : List En3} (h : Mat n n s i v l) : ∃ adj, graph_FromMatrix (n : Int) (n : Int) s i v = some (adj, 0) ∧ Fg adj l n := by
  have hll := h.llen
  obtain ⟨T, t1, t2⟩ := fm_p (l := l) (n := n) (by omega) h.bd
  unfold graph_FromMatrix
  rw [bindS (h.check hn), if_pos rfl, if_pos rfl, bindS (newSets_ok (by omega)), bindS (h.ents hn), bindS t1, bindS (sgraph_ok t2 (by omega))]
  refine ⟨_, rfl, coll_gr (fun i j h => ⟨Ne.symm h.1, h.2.symm⟩) (fun i h => h.1 rfl), by simp, fun v w hv hw ll hll => ?_⟩
  simp only [List.getElem?_map, List.getElem?_range hv, Option.map_some, Option.some.injEq] at hll
  subst hll
  refine Iff.trans (coll_memx _ n) ?_
  simp only [Int.toNat_natCast]
  exact ⟨fun h => h.2.2, fun h => ⟨by omega, hw, h⟩⟩

/-- an entry of the transpose -/
def sw (e : En3) : En3 := (e.2.1, e.1, e.2.2)
theorem sw_loop {l : List En3} (hl : l.length ≤ 1000) : loop (matrix_Transpose_l1 l) (l, 0) = some (l.map sw) := by
  refine Ret.eq ?_
  refine ret_loop l.length (fun k (t : List En3 × Int) => t.2 = k ∧ t.1 = (l.take k).map sw ++ l.drop k) ⟨rfl, by simp⟩ ?_
  rintro k ⟨t, i⟩ hk ⟨rfl, rfl⟩
  unfold matrix_Transpose_l1
  by_cases hkl : k < l.length
  · obtain ⟨e, he⟩ : ∃ e, l[k]? = some e := ⟨l[k], by simp [hkl]⟩
    have e5 : (k : Int) < (l.length : Int) := by omega
    have hw : wa .i64 (k : Int) 1 = ((k + 1 : Nat) : Int) := wa1 (by omega)
    have hd : l.drop k = e :: l.drop (k + 1) := by
      rw [List.drop_eq_getElem_cons hkl]
      congr 1
      have := (List.getElem?_eq_some_iff.1 he).2
      exact this
    generalize hA : (l.take k).map sw = A
    have hAl : A.length = k := by rw [← hA]; simp; omega
    have e1 : getI (A ++ l.drop k) (k : Int) = some e := by
      rw [getI_cast, List.getElem?_append_right (by omega), hAl, hd]; simp
    have s1 : ∀ z z' : En3, setI (A ++ z :: l.drop (k + 1)) (k : Int) z' = some (A ++ z' :: l.drop (k + 1)) := by
      intro z z'
      rw [setI_lt (by simp; omega)]
      congr 1
      rw [List.set_append_right _ _ (by omega), hAl]
      simp
    have g1 : ∀ z : En3, getI (A ++ z :: l.drop (k + 1)) (k : Int) = some z := by
      intro z
      rw [getI_cast, List.getElem?_append_right (by omega), hAl]; simp
    rw [hd]
    simp only [ret_bind, ret_if, e5, ret_of (g1 _), ret_of (s1 _ _), hw, ret_some, vq_l, vq_r, true_implies, not_true_eq_false, false_implies, and_true]
    refine ⟨by omega, trivial, ?_⟩
    rw [tks he, List.map_append, hA]
    show A ++ (e.2.1, e.1, e.2.2) :: l.drop (k + 1) = A ++ [sw e] ++ l.drop (k + 1)
    rw [List.append_assoc]; rfl
  · have e5 : ¬ (k : Int) < (l.length : Int) := by omega
    have : k = l.length := by omega
    subst this
    simp only [ret_bind, ret_if, ret_get, ret_set, ret_app, ret_mkL, ret_sli, ret_wr, ret_wq, ret_some, vq_l, vq_r, Int.toNat_natCast, if_true, if_false, obs, decide_false, decide_true, Bool.false_eq_true, Bool.not_true, Bool.not_false, not_true_eq_false, not_false_eq_true, true_implies, false_implies, reduceCtorEq, true_and, and_true, false_and, or_false, false_or, implies_true, e5]
    simp

theorem transpose_ok {m n : Nat} {s i v : List Int} {l : List En3} (hm : m ≤ 50) (hn : n ≤ 50) (h : Mat m n s i v l) :
    ∃ s' i' v' o, matrix_Transpose (m : Int) (n : Int) s i v = some ((n : Int), (m : Int), s', i', v', 0) ∧ Mat n m s' i' v' o ∧ o.Perm (l.map sw) := by
  have hll := h.llen
  obtain ⟨s', i', v', o, p1, p2, p3⟩ := build_mat (l := l.map sw) (m := n) (n := m) hn hm (by simpa using hll) (fun e he => by
    obtain ⟨e', he', rfl⟩ := List.mem_map.1 he
    exact ⟨(h.bd e' he').2, (h.bd e' he').1⟩) (fun e he => by
    obtain ⟨e', he', rfl⟩ := List.mem_map.1 he
    show Fn e'.2.2 = true
    exact h.fin he') (by
    unfold Apart
    rw [List.pairwise_map]
    exact (lt_apart h.lt).imp fun {a b} hne hh => hne ⟨hh.2, hh.1⟩)
  refine ⟨s', i', v', o, ?_, p2, p3⟩
  unfold matrix_Transpose
  rw [bindS (h.check hn), if_pos rfl, bindS h.ent, bindS (sw_loop (by omega)), bindS p1]
theorem en_sw {l : List En3} {x y : Nat} : En (l.map sw) x y ↔ En l y x := by
  unfold En
  constructor
  · rintro ⟨e, he, h1, h2⟩
    obtain ⟨e', he', rfl⟩ := List.mem_map.1 he
    exact ⟨e', he', h2, h1⟩
  · rintro ⟨e, he, h1, h2⟩
    exact ⟨sw e, List.mem_map.2 ⟨e, he, rfl⟩, h2, h1⟩

/-! ### other values -/
theorem twinInts_ok {l : List Int} (hl : l.length ≤ 100000) : sparsekit_TwinInts l = some l := by
  refine Ret.eq ?_
  unfold sparsekit_TwinInts
  rw [ret_bind]
  refine ret_call (P := fun o => o = l) ?_ (by rintro _ rfl; rw [ret_some])
  refine ret_loop l.length (fun k (t : List Int × Int) => t.2 = k ∧ t.1 = l.take k) ⟨rfl, rfl⟩ ?_
  rintro k ⟨t, i⟩ hk ⟨rfl, rfl⟩
  unfold sparsekit_TwinInts_l1
  by_cases hkl : k < l.length
  · have e1 : getI l (k : Int) = some l[k] := getI_lt hkl
    have e5 : (k : Int) < (l.length : Int) := by omega
    have hw : wa .i64 (k : Int) 1 = ((k + 1 : Nat) : Int) := wa1 (by omega)
    simp only [ret_bind, ret_if, ret_get, ret_set, ret_app, ret_mkL, ret_sli, ret_wr, ret_wq, ret_some, vq_l, vq_r, Int.toNat_natCast, if_true, if_false, obs, decide_false, decide_true, Bool.false_eq_true, Bool.not_true, Bool.not_false, not_true_eq_false, not_false_eq_true, true_implies, false_implies, reduceCtorEq, true_and, and_true, false_and, or_false, false_or, implies_true, e1, e5, hw, List.length_take, List.length_singleton]
    exact ⟨by omega, hkl, by rw [take_succ' hkl]⟩
  · have e5 : ¬ (k : Int) < (l.length : Int) := by omega
    simp only [ret_bind, ret_if, ret_get, ret_set, ret_app, ret_mkL, ret_sli, ret_wr, ret_wq, ret_some, vq_l, vq_r, Int.toNat_natCast, if_true, if_false, obs, decide_false, decide_true, Bool.false_eq_true, Bool.not_true, Bool.not_false, not_true_eq_false, not_false_eq_true, true_implies, false_implies, reduceCtorEq, true_and, and_true, false_and, or_false, false_or, implies_true, e5]
    exact take_all (by omega)
theorem twinFloats_ok {l : List Int} (hl : l.length ≤ 100000) : sparsekit_TwinFloats l = some l := twinInts_ok hl
theorem ones_loop {v : List Int} (hl : v.length ≤ 1000) : loop sparselaw12_GraphPattern_l1 (v, 0) = some (List.replicate v.length 4607182418800017408) := by
  refine Ret.eq ?_
  refine ret_loop v.length (fun k (t : List Int × Int) => t.2 = k ∧ t.1.length = v.length ∧ ∀ u, u < k → t.1[u]? = some 4607182418800017408) ⟨rfl, rfl, fun u hu => by omega⟩ ?_
  rintro k ⟨t, i⟩ hk ⟨rfl, g1, g2⟩
  simp only at g1 g2
  unfold sparselaw12_GraphPattern_l1
  by_cases hkn : k < v.length
  · have hw : wa .i64 (k : Int) 1 = ((k + 1 : Nat) : Int) := wa1 (by omega)
    have e5 : (k : Int) < (t.length : Int) := by omega
    simp only [ret_bind, ret_if, ret_get, ret_set, ret_app, ret_mkL, ret_sli, ret_wr, ret_wq, ret_some, vq_l, vq_r, Int.toNat_natCast, if_true, if_false, obs, decide_false, decide_true, Bool.false_eq_true, Bool.not_true, Bool.not_false, not_true_eq_false, not_false_eq_true, true_implies, false_implies, reduceCtorEq, true_and, and_true, false_and, or_false, false_or, implies_true, e5, hw]
    refine ⟨by omega, hkn, by simp [g1], fun u hu => ?_⟩
    rw [List.getElem?_set]
    by_cases hku : k = u
    · rw [if_pos hku, if_pos (by omega)]
    · rw [if_neg hku]; exact g2 u (by omega)
  · have e5 : ¬ (k : Int) < (t.length : Int) := by omega
    simp only [ret_bind, ret_if, ret_get, ret_set, ret_app, ret_mkL, ret_sli, ret_wr, ret_wq, ret_some, vq_l, vq_r, Int.toNat_natCast, if_true, if_false, obs, decide_false, decide_true, Bool.false_eq_true, Bool.not_true, Bool.not_false, not_true_eq_false, not_false_eq_true, true_implies, false_implies, reduceCtorEq, e5]
    apply List.ext_getElem?
    intro u
    by_cases hu : u < v.length
    · rw [g2 u (by omega)]; simp [hu]
    · rw [List.getElem?_eq_none (by omega), List.getElem?_eq_none (by simp; omega)]
theorem fn_one : Fn 4607182418800017408 = true := by kernel_rfl
theorem ones_mat {m n : Nat} {s i v : List Int} {l : List En3} (hn : n ≤ 50) (h : Mat m n s i v l) : ∃ l', Mat m n s i (List.replicate v.length 4607182418800017408) l' ∧ ∀ r c, En l' r c ↔ En l r c := by
  have hV : Va m n s i (List.replicate v.length 4607182418800017408) := ⟨h.va.sz, ⟨by simpa using h.va.hd.lv, h.va.hd.ls, h.va.hd.s0, h.va.hd.sn⟩, h.va.mo, h.va.cl⟩
  obtain ⟨l', hM⟩ := mat_of hV (fun f hf => by rw [(List.mem_replicate.1 hf).2]; exact fn_one) h.len h.sl hn
  refine ⟨l', hM, fun r c => ?_⟩
  obtain ⟨a1, a2⟩ := entries_at h.va h.ent
  obtain ⟨b1, b2⟩ := entries_at hM.va hM.ent
  rw [← sd_en hM.va b1 b2, sd_en h.va a1 a2]

theorem graphPattern_true (x1 : Int) (x2 x4 : List Int) : sparselaw12_GraphPattern x1 x2 x4 = some true := by
  unfold sparselaw12_GraphPattern
  by_cases hc : (60 : Int) < (x2.length : Int)
  · rw [if_pos hc, awake12]; rfl
  · rw [if_neg hc]
    obtain ⟨n, q1, q2⟩ := place_ok x1 8 (by omega) (by omega)
    have q1' : sparsekit_Place x1 8 = some (n : Int) := q1
    obtain ⟨s, i, v, l, m1, hM⟩ := made_mat (m := n) (n := n) (by omega) (by omega) (x := x2) (by omega)
    obtain ⟨adj, g1, hG⟩ := fromMatrix_ok (by omega) hM
    obtain ⟨s1, i1, v1, o1, t1, hT, t3⟩ := transpose_ok (by omega) (by omega) hM
    obtain ⟨adj1, g2, hG1⟩ := fromMatrix_ok (by omega) hT
    obtain ⟨a, a1, a2⟩ := shuffle_ok x4 (n := n) (by omega)
    obtain ⟨s2, i2, v2, o2, r, c, k1, hP, k3, hr, hc', k4, k5⟩ := permute_ok (by omega) (by omega) hM a2 a2
    obtain ⟨adj2, g3, hG2⟩ := fromMatrix_ok (by omega) hP
    have hlen := hG.len
    have hal := a2.len
    have hrl := relabel_ok hG.gr (by omega) (l := a) (by rw [hlen]; exact a2)
    obtain ⟨l3, hO, hO2⟩ := ones_mat (by omega) hM
    obtain ⟨adj3, g4, hG3⟩ := fromMatrix_ok (by omega) hO
    have h1 : adj = adj1 := fg_ext hG hG1 fun x y _ _ => by
      rw [en_perm t3, en_perm t3, en_sw, en_sw, Or.comm]
    have h3 : adj = adj3 := fg_ext hG hG3 fun x y _ _ => by rw [hO2, hO2]
    have hplr : ∀ (q k : Nat), a[k]? = some (q : Int) → pl r (q : Int) = (k : Int) := by
      intro q k h
      have := k4 k _ h
      unfold pl
      rw [Int.toNat_natCast] at this ⊢
      rw [this]; rfl
    have hplc : ∀ (q k : Nat), a[k]? = some (q : Int) → pl c (q : Int) = (k : Int) := by
      intro q k h
      have := k5 k _ h
      unfold pl
      rw [Int.toNat_natCast] at this ⊢
      rw [this]; rfl
    have hen : ∀ (x y q z : Nat), a[x]? = some (q : Int) → a[y]? = some (z : Int) → (En o2 x y ↔ En l q z) := by
      intro x y q z hx hy
      rw [en_perm k3, en_mv]
      constructor
      · rintro ⟨e, he, f1, f2⟩
        obtain ⟨b1, b2⟩ := hM.bd e he
        obtain ⟨q', hq'⟩ := Int.eq_ofNat_of_zero_le b1.1
        obtain ⟨z', hz'⟩ := Int.eq_ofNat_of_zero_le b2.1
        obtain ⟨kq, hkq⟩ := pm_onto a2 (y := q') (by omega)
        obtain ⟨kz, hkz⟩ := pm_onto a2 (y := z') (by omega)
        rw [hq', hplr q' kq hkq] at f1
        rw [hz', hplc z' kz hkz] at f2
        have e1 : kq = x := by omega
        have e2 : kz = y := by omega
        subst e1; subst e2
        rw [hx] at hkq; rw [hy] at hkz
        have e3 := Option.some.inj hkq
        have e4 := Option.some.inj hkz
        exact ⟨e, he, by omega, by omega⟩
      · rintro ⟨e, he, f1, f2⟩
        exact ⟨e, he, by rw [f1]; exact hplr q x hx, by rw [f2]; exact hplc z y hy⟩
    have hge : ∀ x : Nat, x < n → ∃ q : Nat, a[x]? = some (q : Int) ∧ q < n := by
      intro x hx
      obtain ⟨y, hy⟩ : ∃ y, a[x]? = some y := ⟨a[x]'(by omega), by simp [show x < a.length by omega]⟩
      have hyr := a2.rng y (mem_get hy)
      obtain ⟨q, rfl⟩ := Int.eq_ofNat_of_zero_le hyr.1
      exact ⟨q, hy, by omega⟩
    obtain ⟨adj4, hadj4, hrl'⟩ : ∃ g, g = adj2 ∧ graph_Relabel adj a = some (g, 0) := by
      refine ⟨_, ?_, hrl⟩
      refine gr_ext (coll_gr (fun i j h => h.sym hG.gr) (fun i h => h.ne hG.gr)) hG2.gr (by simp [hG2.len, hal]) ?_
      intro x y k k' hx hy e1 e2
      have hxn : x < a.length := by simpa using hx
      have hyn : y < a.length := by simpa using hy
      simp only [List.getElem?_map, List.getElem?_range hxn, Option.map_some, Option.some.injEq] at e1
      subst e1
      rw [hG2.nb x y (by omega) (by omega) _ e2, coll_memx]
      simp only [Int.toNat_natCast]
      obtain ⟨q, f1, f2⟩ := hge x (by omega)
      obtain ⟨z, f3, f4⟩ := hge y (by omega)
      rw [hen x y q z f1 f3, hen y x z q f3 f1]
      obtain ⟨ll, hll⟩ : ∃ ll, adj[q]? = some ll := ⟨adj[q]'(by omega), by simp [show q < adj.length by omega]⟩
      have hnb := hG.nb q z f2 f4 ll hll
      have hqz : x ≠ y ↔ q ≠ z := by
        constructor
        · intro hne he
          subst he
          obtain ⟨a1', b1'⟩ := List.getElem?_eq_some_iff.1 f1
          obtain ⟨a2', b2'⟩ := List.getElem?_eq_some_iff.1 f3
          exact hne (nodup_inj a2.nd (hi := a1') (hj := a2') (by rw [b1', b2']))
        · intro hne he
          subst he
          rw [f1] at f3
          have := Option.some.inj f3
          omega
      constructor
      · rintro ⟨_, _, x', y', u1, u2, ll', u3, u4⟩
        rw [f1] at u1; rw [f3] at u2
        obtain rfl := Option.some.inj u1
        obtain rfl := Option.some.inj u2
        simp only [Int.toNat_natCast] at u3 u4
        rw [hll] at u3
        obtain rfl := Option.some.inj u3
        have := hnb.1 u4
        exact ⟨hqz.2 this.1, this.2⟩
      · rintro ⟨u1, u2⟩
        exact ⟨by omega, by omega, (q : Int), (z : Int), f1, f3, ll, by simpa using hll, by simpa using hnb.2 ⟨hqz.1 u1, u2⟩⟩
    subst hadj4
    subst h1
    subst h3
    have hGr := hG.gr
    have hl2 := hG2.len
    have htw : sparsekit_TwinMatrix (n : Int) (n : Int) s i v = some ((n : Int), (n : Int), s, i, v) := by
      unfold sparsekit_TwinMatrix
      have := hM.sl
      have := hM.len
      have := hM.va.hd.lv
      rw [bindS (twinInts_ok (by omega)), bindS (twinInts_ok (by omega)), bindS (twinFloats_ok (by omega))]
    rw [bindS q1', bindS m1]
    simp only
    rw [bindS g1, bindS t1]
    simp only
    rw [bindS g2, bindS a1, bindS k1]
    simp only
    rw [bindS g3, bindS hrl', bindS htw]
    simp only
    rw [bindS (ones_loop (by have := hM.len; have := hM.va.hd.lv; omega)), bindS g4]
    have ks := kgraph_same hGr (by omega)
    have ks2 := kgraph_same hG2.gr (by omega)
    simp [hlen, ks, ks2, awake12]
end Px
