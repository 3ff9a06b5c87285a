/- The document's check of a matrix; entries; graphs of matrices; the law. -/
import Derived.Test.YtcknmegldjnjjaaPtG
set_option linter.unusedSimpArgs false
set_option linter.unusedVariables false
namespace Pl
open Sx Go M Vc

theorem check_r {x1 x2 : Int} {x3 x5 x7 : List Int} (h3 : x3.length ≤ 100000) (h5 : x5.length ≤ 100000) (h7 : x7.length ≤ 100000) : Ret (sparseref09_Check x1 x2 x3 x5 x7) (Ot x1 x2 x3 x5 x7) := by
  unfold sparseref09_Check
  by_cases hs : Sz x1 x2 x5
  · obtain ⟨hs1, hs2, hs3⟩ := id hs
    obtain ⟨n, rfl⟩ := Int.eq_ofNat_of_zero_le hs2.1
    have hw : wa .i64 (n : Int) 1 = ((n + 1 : Nat) : Int) := wa1 (by omega)
    rw [if_neg (by simp; omega), hw]
    by_cases hv : x7.length = x5.length
    · by_cases hl : x3.length = n + 1
      · have hg0 : getI x3 0 = some (x3[0]'(by omega)) := getI_lt (k := 0) (by omega)
        have hgn : getI x3 (n : Int) = some (x3[n]'(by omega)) := getI_lt (by omega)
        rw [if_neg (by simp; omega), bindS hg0]
        simp only [Option.bind_some]
        by_cases h0 : (x3[0]'(by omega)) = 0
        · rw [decide_eq_true h0, if_neg (by simp), bindS hgn]
          simp only [Option.bind_some]
          by_cases hn : (x3[n]'(by omega)) = (x5.length : Int)
          · rw [decide_eq_true hn, if_neg (by simp)]
            have hH : Hd x1 (n : Int) x3 x5 x7 := ⟨hv, by omega, by simp [h0, show 0 < x3.length by omega], by simp [hn, show n < x3.length by omega]⟩
            simp only [ret_bind]
            refine ret_call (mono_r hl (by omega)) ?_
            rintro o (⟨rfl, hM⟩ | ⟨rfl, hM⟩)
            · simp only [ret_bind]
              refine ret_call (cl_r (x1 := x1) hl (by omega) h5 hM hH.s0 (by simpa using hH.sn)) ?_
              rintro o (⟨rfl, hC⟩ | ⟨rfl, hC⟩)
              · simp only [ret_bind]
                refine ret_call (fin_r h7) ?_
                rintro b (⟨rfl, hF⟩ | ⟨rfl, hF⟩)
                · rw [if_pos rfl, ret_some]; exact Or.inr (Or.inr (Or.inr ⟨rfl, hs, ⟨hH, hM, hC⟩, hF⟩))
                · rw [if_neg (by simp), ret_some]; exact Or.inr (Or.inr (Or.inl ⟨rfl, hs, ⟨hH, hM, hC⟩, hF⟩))
              · rw [ret_some]; exact Or.inr (Or.inl ⟨rfl, hs, fun h => hC h.2.2⟩)
            · rw [ret_some]; exact Or.inr (Or.inl ⟨rfl, hs, fun h => hM h.2.1⟩)
          · rw [decide_eq_false hn, if_pos (by simp), ret_some]
            refine Or.inr (Or.inl ⟨rfl, hs, fun h => hn ?_⟩)
            have := h.1.sn
            simp only [Int.toNat_natCast] at this
            rw [List.getElem?_eq_getElem (by omega)] at this
            exact Option.some.inj this
        · rw [decide_eq_false h0]
          simp only [Bool.not_false, if_true, Option.bind_some]
          rw [ret_some]
          refine Or.inr (Or.inl ⟨rfl, hs, fun h => h0 ?_⟩)
          have := h.1.s0
          rw [List.getElem?_eq_getElem (by omega)] at this
          exact Option.some.inj this
      · rw [if_pos (by simp; omega)]
        simp only [Option.bind_some, if_true]
        rw [ret_some]
        exact Or.inr (Or.inl ⟨rfl, hs, fun h => hl (by have := h.1.ls; omega)⟩)
    · rw [if_pos (by simp; omega)]
      simp only [Option.bind_some, if_true]
      rw [ret_some]
      exact Or.inr (Or.inl ⟨rfl, hs, fun h => hv h.1.lv⟩)
  · rw [if_pos, ret_some]
    · exact Or.inl ⟨rfl, hs⟩
    · simp only [Bool.or_eq_true, decide_eq_true_eq]
      refine Classical.byContradiction fun h => hs ⟨by omega, by omega, by omega⟩

theorem checks {x1 x2 : Int} {x3 x5 x7 : List Int} (h3 : x3.length ≤ 100000) (h5 : x5.length ≤ 100000) (h7 : x7.length ≤ 100000) : ∃ e, matrix_Check x1 x2 x3 x5 x7 = some e ∧ sparseref09_Check x1 x2 x3 x5 x7 = some e ∧ Ot x1 x2 x3 x5 x7 e := by
  obtain ⟨e, h1, h2⟩ := check_p (x1 := x1) (x2 := x2) h3 h5 h7
  obtain ⟨e', k1, k2⟩ := check_r (x1 := x1) (x2 := x2) h3 h5 h7
  obtain rfl := h2.uniq k2
  exact ⟨e, h1, k1, h2⟩

/-- a valid matrix -/
structure Va (x1 x2 : Int) (x3 x5 x7 : List Int) : Prop where
  sz : Sz x1 x2 x5
  hd : Hd x1 x2 x3 x5 x7
  mo : Mo x3
  cl : Cl x1 x3 x5
theorem Ot.va {x1 x2 : Int} {x3 x5 x7 : List Int} (h : Ot x1 x2 x3 x5 x7 0) : Va x1 x2 x3 x5 x7 := by
  rcases h with ⟨h, _⟩ | ⟨h, _⟩ | ⟨h, _⟩ | ⟨_, h1, ⟨h2, h3, h4⟩, _⟩
  · cases h
  · cases h
  · cases h
  · exact ⟨h1, h2, h3, h4⟩

theorem entries_ok {x1 x2 : Int} {x3 x5 x7 : List Int} (h : Va x1 x2 x3 x5 x7) (h5 : x5.length ≤ 100000) :
    Ret (loop (sparseref09_Entries_l3 x2 x3 x5 x7) ([], 0)) (fun l => l.length ≤ x5.length ∧ ∀ e, e ∈ l → (0 ≤ e.1 ∧ e.1 < x1) ∧ (0 ≤ e.2.1 ∧ e.2.1 < x2)) := by
  obtain ⟨hs1, hs2, hs3⟩ := h.sz
  obtain ⟨n, rfl⟩ := Int.eq_ofNat_of_zero_le hs2.1
  have hl : x3.length = n + 1 := by have := h.hd.ls; omega
  have hsn : x3[n]? = some (x5.length : Int) := by simpa using h.hd.sn
  have hv := h.hd.lv
  refine ret_loop n (fun k (t : List (Int × Int × Int) × Int) => t.2 = k ∧ x3[k]? = some (t.1.length : Int) ∧ ∀ e, e ∈ t.1 → (0 ≤ e.1 ∧ e.1 < x1) ∧ (0 ≤ e.2.1 ∧ e.2.1 < (n : Int))) ⟨rfl, by simpa using h.hd.s0, fun e he => by simp at he⟩ ?_
  rintro k ⟨l, i⟩ hk ⟨rfl, hkl, hI⟩
  simp only at hkl hI
  unfold sparseref09_Entries_l3
  by_cases hkn : k < n
  · have hwk : wa .i64 (k : Int) 1 = ((k + 1 : Nat) : Int) := wa1 (by omega)
    obtain ⟨b, hb⟩ : ∃ b, x3[k + 1]? = some b := ⟨x3[k + 1]'(by omega), by simp [show k + 1 < x3.length by omega]⟩
    have hab := h.mo k _ b hkl hb
    have hbn := mo_le h.mo (show k + 1 ≤ n by omega) hb hsn
    obtain ⟨b, rfl⟩ := Int.eq_ofNat_of_zero_le (show 0 ≤ b by omega)
    have e1 : getI x3 (k : Int) = some (l.length : Int) := hkl
    have e2 : getI x3 ((k + 1 : Nat) : Int) = some (b : Int) := hb
    have e5 : (k : Int) < (n : Int) := by omega
    simp only [ret_bind, ret_if, e1, e5, ret_some, vq_l, vq_r, hwk, true_implies, not_true_eq_false, false_implies, and_true]
    refine ret_call (P := fun l' => l'.length = b ∧ ∀ e, e ∈ l' → (0 ≤ e.1 ∧ e.1 < x1) ∧ (0 ≤ e.2.1 ∧ e.2.1 < (n : Int))) ?_ (fun l' hl' => ⟨hkn, trivial, by rw [hb, hl'.1], hl'.2⟩)
    refine ret_loop (b - l.length) (fun m (t : List (Int × Int × Int) × Int) => t.2 = ((l.length + m : Nat) : Int) ∧ t.1.length = l.length + m ∧ ∀ e, e ∈ t.1 → (0 ≤ e.1 ∧ e.1 < x1) ∧ (0 ≤ e.2.1 ∧ e.2.1 < (n : Int))) ⟨rfl, rfl, hI⟩ ?_
    rintro m ⟨l', i⟩ hm ⟨h0, h1, h2⟩
    simp only at h0 h1 h2
    subst h0
    unfold sparseref09_Entries_l4
    by_cases hmb : l.length + m < b
    · obtain ⟨x, hx⟩ : ∃ x, x5[l.length + m]? = some x := ⟨x5[l.length + m]'(by omega), by simp [show l.length + m < x5.length by omega]⟩
      obtain ⟨y, hy⟩ : ∃ y, x7[l.length + m]? = some y := ⟨x7[l.length + m]'(by omega), by simp [show l.length + m < x7.length by omega]⟩
      have e3 : getI x5 ((l.length + m : Nat) : Int) = some x := hx
      have e4 : getI x7 ((l.length + m : Nat) : Int) = some y := hy
      have e6 : ((l.length + m : Nat) : Int) < (b : Int) := by omega
      have hw2 : wa .i64 ((l.length + m : Nat) : Int) 1 = ((l.length + (m + 1) : Nat) : Int) := by rw [wa1 (by omega)]; congr 1
      have hc := h.cl k _ _ hkl hb (l.length + m) x (by omega) (by omega) hx
      simp only [ret_bind, ret_if, ret_get, ret_set, ret_app, ret_mkL, ret_sli, ret_wr, ret_wq, ret_some, vq_l, vq_r, Int.toNat_natCast, if_true, if_false, obs, decide_false, decide_true, Bool.false_eq_true, Bool.not_true, Bool.not_false, not_true_eq_false, not_false_eq_true, true_implies, false_implies, reduceCtorEq, true_and, and_true, false_and, or_false, false_or, implies_true, hwk, e2, e3, e4, e6, hw2]
      refine ⟨by rw [h1, List.length_singleton]; omega, by omega, by rw [List.length_append, h1, List.length_singleton]; omega, fun e he => ?_⟩
      rw [List.mem_append, List.mem_singleton] at he
      rcases he with he | rfl
      · exact h2 e he
      · exact ⟨⟨hc.1, hc.2.1⟩, by simp only; omega, by simp only; omega⟩
    · have e6 : ¬ ((l.length + m : Nat) : Int) < (b : Int) := by omega
      simp only [ret_bind, ret_if, ret_get, ret_set, ret_app, ret_mkL, ret_sli, ret_wr, ret_wq, ret_some, vq_l, vq_r, Int.toNat_natCast, if_true, if_false, obs, decide_false, decide_true, Bool.false_eq_true, Bool.not_true, Bool.not_false, not_true_eq_false, not_false_eq_true, true_implies, false_implies, reduceCtorEq, true_and, and_true, false_and, or_false, false_or, implies_true, hwk, e2, e6]
      exact ⟨by omega, h2⟩
  · have e5 : ¬ (k : Int) < (n : Int) := by omega
    simp only [ret_bind, ret_if, ret_get, ret_set, ret_app, ret_mkL, ret_sli, ret_wr, ret_wq, ret_some, vq_l, vq_r, Int.toNat_natCast, if_true, if_false, obs, decide_false, decide_true, Bool.false_eq_true, Bool.not_true, Bool.not_false, not_true_eq_false, not_false_eq_true, true_implies, false_implies, reduceCtorEq, true_and, and_true, false_and, or_false, false_or, implies_true, e5]
    have : k = n := by omega
    subst this
    rw [hsn] at hkl
    have := Option.some.inj hkl
    exact ⟨by omega, hI⟩

theorem ent_l4 : matrix_entries_l4 = sparseref09_Entries_l4 := rfl
theorem ent_l3 : matrix_entries_l3 = sparseref09_Entries_l3 := rfl
theorem nor_l1 : graph_FromNormal_l1 = sparseref12_FromNormal_l1 := rfl

/-- the entries, both ways -/
theorem ents {x1 x2 : Int} {x3 x5 x7 : List Int} (h : Va x1 x2 x3 x5 x7) (h5 : x5.length ≤ 100000) (hp : matrix_Check x1 x2 x3 x5 x7 = some 0) (hr : sparseref09_Check x1 x2 x3 x5 x7 = some 0) :
    ∃ l, matrix_Entries x1 x2 x3 x5 x7 = some l ∧ sparseref09_Entries x1 x2 x3 x5 x7 = some l ∧ l.length ≤ x5.length ∧ ∀ e, e ∈ l → (0 ≤ e.1 ∧ e.1 < x1) ∧ (0 ≤ e.2.1 ∧ e.2.1 < x2) := by
  obtain ⟨l, h1, h2, h3⟩ := entries_ok h h5
  refine ⟨l, ?_, ?_, h2, h3⟩
  · unfold matrix_Entries matrix_entries
    rw [bindS hp, if_pos rfl, ent_l3, h1]; rfl
  · unfold sparseref09_Entries
    rw [bindS hr, if_pos rfl, h1]; rfl

def ER (l : List (Int × Int × Int)) (i j : Nat) : Prop := ∃ e, e ∈ l ∧ e.1 = (i : Int) ∧ e.2.1 = (j : Int)
theorem er_step {l : List (Int × Int × Int)} {k : Nat} {e : Int × Int × Int} (h : l[k]? = some e) {v w : Nat} (hv : e.1 = (v : Int)) (hw : e.2.1 = (w : Int)) (i j : Nat) : ER (l.take (k + 1)) i j ↔ ER (l.take k) i j ∨ (i = v ∧ j = w) := by
  unfold ER
  constructor
  · rintro ⟨x, hx, h1, h2⟩
    rw [mts h] at hx
    rcases hx with hx | rfl
    · exact .inl ⟨x, hx, h1, h2⟩
    · exact .inr ⟨by omega, by omega⟩
  · rintro (⟨x, hx, h1, h2⟩ | ⟨rfl, rfl⟩)
    · exact ⟨x, (mts h).2 (.inl hx), h1, h2⟩
    · exact ⟨e, (mts h).2 (.inr rfl), hv, hw⟩

theorem fm_p {l : List (Int × Int × Int)} {n : Nat} (hl : l.length ≤ 100000) (hr : ∀ e, e ∈ l → (0 ≤ e.1 ∧ e.1 < (n : Int)) ∧ (0 ≤ e.2.1 ∧ e.2.1 < (n : Int))) :
    Ret (loop (graph_FromMatrix_l1 l) (List.replicate n (List.replicate n false), 0)) (fun T => Tr T n (fun i j => i ≠ j ∧ (ER l i j ∨ ER l j i))) := by
  refine ret_loop l.length (fun k (t : List (List Bool) × Int) => t.2 = k ∧ Tr t.1 n (fun i j => i ≠ j ∧ (ER (l.take k) i j ∨ ER (l.take k) j i))) ⟨rfl, Tr.congr (fun i j _ _ => by simp [ER]) (Tr.blank n)⟩ ?_
  rintro k ⟨T, i⟩ hk ⟨rfl, hT⟩
  simp only at hT
  unfold graph_FromMatrix_l1
  by_cases hkl : k < l.length
  · obtain ⟨x, hx⟩ : ∃ x, l[k]? = some x := ⟨l[k], by simp [hkl]⟩
    obtain ⟨⟨a1, a2⟩, b1, b2⟩ := hr x (mem_get hx)
    obtain ⟨v, hv⟩ := Int.eq_ofNat_of_zero_le a1
    obtain ⟨w, hw'⟩ := Int.eq_ofNat_of_zero_le b1
    obtain ⟨T', j1, j2⟩ := join_ok hT (show v < n by omega) (show w < n by omega)
    have e1 : getI l (k : Int) = some x := hx
    have e5 : (k : Int) < (l.length : Int) := by omega
    have hw : wa .i64 (k : Int) 1 = ((k + 1 : Nat) : Int) := wa1 (by omega)
    simp only [ret_bind, ret_if, ret_get, ret_set, ret_app, ret_mkL, ret_sli, ret_wr, ret_wq, ret_some, vq_l, vq_r, Int.toNat_natCast, if_true, if_false, obs, decide_false, decide_true, Bool.false_eq_true, Bool.not_true, Bool.not_false, not_true_eq_false, not_false_eq_true, true_implies, false_implies, reduceCtorEq, true_and, and_true, false_and, or_false, false_or, implies_true, e1, e5, hw, hv, hw', j1]
    refine ⟨hkl, Tr.congr (fun i j _ _ => ?_) j2⟩
    rw [er_step hx hv hw', er_step hx hv hw']
    constructor
    · rintro (⟨h1, ⟨rfl, rfl⟩ | ⟨rfl, rfl⟩⟩ | ⟨h1, h2⟩)
      · exact ⟨h1, .inl (.inr ⟨rfl, rfl⟩)⟩
      · exact ⟨fun h => h1 h.symm, .inr (.inr ⟨rfl, rfl⟩)⟩
      · exact ⟨h1, h2.imp .inl .inl⟩
    · rintro ⟨h1, (h | ⟨rfl, rfl⟩) | (h | ⟨rfl, rfl⟩)⟩
      · exact .inr ⟨h1, .inl h⟩
      · exact .inl ⟨h1, .inl ⟨rfl, rfl⟩⟩
      · exact .inr ⟨h1, .inr h⟩
      · exact .inl ⟨fun h => h1 h.symm, .inr ⟨rfl, rfl⟩⟩
  · have e5 : ¬ (k : Int) < (l.length : Int) := by omega
    simp only [ret_bind, ret_if, ret_get, ret_set, ret_app, ret_mkL, ret_sli, ret_wr, ret_wq, ret_some, vq_l, vq_r, Int.toNat_natCast, if_true, if_false, obs, decide_false, decide_true, Bool.false_eq_true, Bool.not_true, Bool.not_false, not_true_eq_false, not_false_eq_true, true_implies, false_implies, reduceCtorEq, true_and, and_true, false_and, or_false, false_or, implies_true, e5]
    rwa [take_all (by omega)] at hT

theorem fm_r {l : List (Int × Int × Int)} {n : Nat} (hl : l.length ≤ 100000) (hr : ∀ e, e ∈ l → (0 ≤ e.1 ∧ e.1 < (n : Int)) ∧ (0 ≤ e.2.1 ∧ e.2.1 < (n : Int))) :
    Ret (loop (sparseref12_FromMatrix_l1 l) (List.replicate n (List.replicate n false), 0)) (fun T => Tr T n (ER l)) := by
  refine ret_loop l.length (fun k (t : List (List Bool) × Int) => t.2 = k ∧ Tr t.1 n (ER (l.take k))) ⟨rfl, Tr.congr (fun i j _ _ => by simp [ER]) (Tr.blank n)⟩ ?_
  rintro k ⟨T, i⟩ hk ⟨rfl, hT⟩
  simp only at hT
  unfold sparseref12_FromMatrix_l1
  by_cases hkl : k < l.length
  · obtain ⟨x, hx⟩ : ∃ x, l[k]? = some x := ⟨l[k], by simp [hkl]⟩
    obtain ⟨⟨a1, a2⟩, b1, b2⟩ := hr x (mem_get hx)
    obtain ⟨v, hv⟩ := Int.eq_ofNat_of_zero_le a1
    obtain ⟨w, hw'⟩ := Int.eq_ofNat_of_zero_le b1
    obtain ⟨r, g1, g2, g3, _⟩ := hT.row (show v < n by omega)
    have hTl := hT.1
    have e1 : getI l (k : Int) = some x := hx
    have e5 : (k : Int) < (l.length : Int) := by omega
    have hw : wa .i64 (k : Int) 1 = ((k + 1 : Nat) : Int) := wa1 (by omega)
    simp only [ret_bind, ret_if, ret_get, ret_set, ret_app, ret_mkL, ret_sli, ret_wr, ret_wq, ret_some, vq_l, vq_r, Int.toNat_natCast, if_true, if_false, obs, decide_false, decide_true, Bool.false_eq_true, Bool.not_true, Bool.not_false, not_true_eq_false, not_false_eq_true, true_implies, false_implies, reduceCtorEq, true_and, and_true, false_and, or_false, false_or, implies_true, e1, e5, hw, hv, hw', g1]
    refine ⟨by omega, by omega, by omega, by omega, hkl, Tr.congr (fun i j _ _ => ?_) (hT.on (j := w) (show v < n by omega) g2)⟩
    rw [er_step hx hv hw']
    exact Or.comm
  · have e5 : ¬ (k : Int) < (l.length : Int) := by omega
    simp only [ret_bind, ret_if, ret_get, ret_set, ret_app, ret_mkL, ret_sli, ret_wr, ret_wq, ret_some, vq_l, vq_r, Int.toNat_natCast, if_true, if_false, obs, decide_false, decide_true, Bool.false_eq_true, Bool.not_true, Bool.not_false, not_true_eq_false, not_false_eq_true, true_implies, false_implies, reduceCtorEq, true_and, and_true, false_and, or_false, false_or, implies_true, e5]
    rwa [take_all (by omega)] at hT

open Classical in
theorem lists_same {n : Nat} {R R' : Nat → Nat → Prop} (h : ∀ i j, i < n → j < n → (R i j ↔ (i ≠ j ∧ (R' i j ∨ R' j i)))) : ((List.range n).map fun v => coll (fun w => R v w) n) = ((List.range n).map fun k => nbr (fun i j => decide (R' i j)) k n) := by
  refine List.map_congr_left fun i hi => ?_
  have hil : i < n := by simpa using hi
  refine asc_unique (coll_asc _) (nbr_asc _) fun x => ?_
  rw [nbr_mem, coll_mem]
  simp only [decide_eq_true_eq]
  constructor
  · rintro ⟨h1, h2, h3⟩
    have := (h i x.toNat hil h2).1 h3
    exact ⟨h1, h2, this.1, this.2⟩
  · rintro ⟨h1, h2, h3, h4⟩
    exact ⟨h1, h2, (h i x.toNat hil h2).2 ⟨h3, h4⟩⟩

/-! ### the graph of the normal matrix -/
def PR (c : List Int) (m : Nat) (i j : Nat) : Prop := ∃ a b : Nat, b < a ∧ a < m ∧ c[a]? = some (i : Int) ∧ c[b]? = some (j : Int)
def PB (c : List Int) (a q : Nat) (i j : Nat) : Prop := ∃ b : Nat, b < q ∧ c[a]? = some (i : Int) ∧ c[b]? = some (j : Int)
theorem PR.succ {c : List Int} {m i j : Nat} : PR c (m + 1) i j ↔ PR c m i j ∨ PB c m m i j := by
  constructor
  · rintro ⟨a, b, h1, h2, h3, h4⟩
    by_cases ha : a = m
    · subst ha; exact .inr ⟨b, h1, h3, h4⟩
    · exact .inl ⟨a, b, h1, by omega, h3, h4⟩
  · rintro (⟨a, b, h1, h2, h3, h4⟩ | ⟨b, h1, h2, h3⟩)
    · exact ⟨a, b, h1, by omega, h3, h4⟩
    · exact ⟨m, b, h1, by omega, h2, h3⟩
theorem PB.succ {c : List Int} {a q : Nat} {v w : Nat} (ha : c[a]? = some (v : Int)) (hq : c[q]? = some (w : Int)) {i j : Nat} : PB c a (q + 1) i j ↔ PB c a q i j ∨ (i = v ∧ j = w) := by
  constructor
  · rintro ⟨b, h1, h2, h3⟩
    by_cases hb : b = q
    · subst hb
      rw [ha] at h2; rw [hq] at h3
      have := Option.some.inj h2
      have := Option.some.inj h3
      exact .inr ⟨by omega, by omega⟩
    · exact .inl ⟨b, by omega, h2, h3⟩
  · rintro (⟨b, h1, h2, h3⟩ | ⟨rfl, rfl⟩)
    · exact ⟨b, by omega, h2, h3⟩
    · exact ⟨q, by omega, ha, hq⟩

theorem row_p {c : List Int} {n : Nat} (hc : c.length ≤ 100000) (hr : ∀ x, x ∈ c → 0 ≤ x ∧ x < (n : Int)) {T : List (List Bool)} {B : Nat → Nat → Prop} (hT : Tr T n B) :
    Ret (loop (graph_FromNormal_l13 c) (T, 0)) (fun T' => Tr T' n (fun i j => B i j ∨ (i ≠ j ∧ (PR c c.length i j ∨ PR c c.length j i)))) := by
  refine ret_loop c.length (fun a (t : List (List Bool) × Int) => t.2 = a ∧ Tr t.1 n (fun i j => B i j ∨ (i ≠ j ∧ (PR c a i j ∨ PR c a j i)))) ⟨rfl, Tr.congr (fun i j _ _ => by simp [PR]) hT⟩ ?_
  rintro a ⟨T, i⟩ ha ⟨rfl, hT⟩
  simp only at hT
  unfold graph_FromNormal_l13
  by_cases hac : a < c.length
  · obtain ⟨x, hx⟩ : ∃ x, c[a]? = some x := ⟨c[a], by simp [hac]⟩
    have hxr := hr x (mem_get hx)
    obtain ⟨v, rfl⟩ := Int.eq_ofNat_of_zero_le hxr.1
    have e1 : getI c (a : Int) = some (v : Int) := hx
    have e5 : (a : Int) < (c.length : Int) := by omega
    have hw : wa .i64 (a : Int) 1 = ((a + 1 : Nat) : Int) := wa1 (by omega)
    have hz : (0 : Int).toNat = 0 := rfl
    simp only [ret_bind, ret_if, ret_get, ret_set, ret_app, ret_mkL, ret_sli, ret_wr, ret_wq, ret_some, vq_l, vq_r, Int.toNat_natCast, if_true, if_false, obs, decide_false, decide_true, Bool.false_eq_true, Bool.not_true, Bool.not_false, not_true_eq_false, not_false_eq_true, true_implies, false_implies, reduceCtorEq, true_and, and_true, false_and, or_false, false_or, implies_true, e1, e5, hw, hz, List.drop_zero]
    refine ⟨by omega, by omega, by omega, ?_⟩
    refine ret_call (P := fun T' => Tr T' n (fun i j => (B i j ∨ (i ≠ j ∧ (PR c a i j ∨ PR c a j i))) ∨ (i ≠ j ∧ (PB c a a i j ∨ PB c a a j i)))) ?_ ?_
    · refine ret_loop a (fun q (t : List (List Bool) × Int) => t.2 = q ∧ Tr t.1 n (fun i j => (B i j ∨ (i ≠ j ∧ (PR c a i j ∨ PR c a j i))) ∨ (i ≠ j ∧ (PB c a q i j ∨ PB c a q j i)))) ⟨rfl, Tr.congr (fun i j _ _ => by simp [PB]) hT⟩ ?_
      rintro q ⟨T, i⟩ hq ⟨rfl, hT⟩
      simp only at hT
      unfold graph_FromNormal_l14
      have hll : (c.take a).length = a := by simp; omega
      by_cases hqa : q < a
      · obtain ⟨y, hy⟩ : ∃ y, c[q]? = some y := ⟨c[q]'(by omega), by simp [show q < c.length by omega]⟩
        have hyr := hr y (mem_get hy)
        obtain ⟨w, rfl⟩ := Int.eq_ofNat_of_zero_le hyr.1
        obtain ⟨T', j1, j2⟩ := join_ok hT (show w < n by omega) (show v < n by omega)
        have e2 : getI (c.take a) (q : Int) = some (w : Int) := by rw [getI_cast, List.getElem?_take, if_pos hqa, hy]
        have e6 : (q : Int) < ((c.take a).length : Int) := by omega
        have hw2 : wa .i64 (q : Int) 1 = ((q + 1 : Nat) : Int) := wa1 (by omega)
        simp only [ret_bind, ret_if, ret_get, ret_set, ret_app, ret_mkL, ret_sli, ret_wr, ret_wq, ret_some, vq_l, vq_r, Int.toNat_natCast, if_true, if_false, obs, decide_false, decide_true, Bool.false_eq_true, Bool.not_true, Bool.not_false, not_true_eq_false, not_false_eq_true, true_implies, false_implies, reduceCtorEq, true_and, and_true, false_and, or_false, false_or, implies_true, e2, e6, hw2, j1]
        refine ⟨hqa, Tr.congr (fun i j _ _ => ?_) j2⟩
        rw [PB.succ hx hy, PB.succ hx hy]
        constructor
        · rintro (⟨h1, ⟨rfl, rfl⟩ | ⟨rfl, rfl⟩⟩ | h | ⟨h1, h2⟩)
          · exact .inr ⟨h1, .inr (.inr ⟨rfl, rfl⟩)⟩
          · exact .inr ⟨fun h => h1 h.symm, .inl (.inr ⟨rfl, rfl⟩)⟩
          · exact .inl h
          · exact .inr ⟨h1, h2.imp .inl .inl⟩
        · rintro (h | ⟨h1, (h | ⟨rfl, rfl⟩) | (h | ⟨rfl, rfl⟩)⟩)
          · exact .inr (.inl h)
          · exact .inr (.inr ⟨h1, .inl h⟩)
          · exact .inl ⟨fun h => h1 h.symm, .inr ⟨rfl, rfl⟩⟩
          · exact .inr (.inr ⟨h1, .inr h⟩)
          · exact .inl ⟨h1, .inl ⟨rfl, rfl⟩⟩
      · have e6 : ¬ (q : Int) < ((c.take a).length : Int) := by omega
        have : q = a := by omega
        subst this
        simp only [ret_bind, ret_if, ret_get, ret_set, ret_app, ret_mkL, ret_sli, ret_wr, ret_wq, ret_some, vq_l, vq_r, Int.toNat_natCast, if_true, if_false, obs, decide_false, decide_true, Bool.false_eq_true, Bool.not_true, Bool.not_false, not_true_eq_false, not_false_eq_true, true_implies, false_implies, reduceCtorEq, true_and, and_true, false_and, or_false, false_or, implies_true, e6]
        exact hT
    · intro T' hT'
      refine ⟨hac, Tr.congr (fun i j _ _ => ?_) hT'⟩
      rw [PR.succ, PR.succ]
      constructor
      · rintro ((h | ⟨h1, h2⟩) | ⟨h1, h2⟩)
        · exact .inl h
        · exact .inr ⟨h1, h2.imp .inl .inl⟩
        · exact .inr ⟨h1, h2.imp .inr .inr⟩
      · rintro (h | ⟨h1, (h | h) | (h | h)⟩)
        · exact .inl (.inl h)
        · exact .inl (.inr ⟨h1, .inl h⟩)
        · exact .inr ⟨h1, .inl h⟩
        · exact .inl (.inr ⟨h1, .inr h⟩)
        · exact .inr ⟨h1, .inr h⟩
  · have e5 : ¬ (a : Int) < (c.length : Int) := by omega
    have : a = c.length := by omega
    subst this
    simp only [ret_bind, ret_if, ret_get, ret_set, ret_app, ret_mkL, ret_sli, ret_wr, ret_wq, ret_some, vq_l, vq_r, Int.toNat_natCast, if_true, if_false, obs, decide_false, decide_true, Bool.false_eq_true, Bool.not_true, Bool.not_false, not_true_eq_false, not_false_eq_true, true_implies, false_implies, reduceCtorEq, true_and, and_true, false_and, or_false, false_or, implies_true, e5]
    exact hT

theorem row_r {rows : List (List Int)} {k : Nat} {c : List Int} (hk : getI rows (k : Int) = some c) {n : Nat} (hc : c.length ≤ 100000) (hr : ∀ x, x ∈ c → 0 ≤ x ∧ x < (n : Int)) {T : List (List Bool)} {B : Nat → Nat → Prop} (hT : Tr T n B) :
    Ret (loop (sparseref12_FromNormal_l13 rows (k : Int)) (T, 0)) (fun T' => Tr T' n (fun i j => B i j ∨ PR c c.length i j)) := by
  refine ret_loop c.length (fun a (t : List (List Bool) × Int) => t.2 = a ∧ Tr t.1 n (fun i j => B i j ∨ PR c a i j)) ⟨rfl, Tr.congr (fun i j _ _ => by simp [PR]) hT⟩ ?_
  rintro a ⟨T, i⟩ ha ⟨rfl, hT⟩
  simp only at hT
  unfold sparseref12_FromNormal_l13
  by_cases hac : a < c.length
  · obtain ⟨x, hx⟩ : ∃ x, c[a]? = some x := ⟨c[a], by simp [hac]⟩
    have hxr := hr x (mem_get hx)
    obtain ⟨v, rfl⟩ := Int.eq_ofNat_of_zero_le hxr.1
    have e1 : getI c (a : Int) = some (v : Int) := hx
    have e5 : (a : Int) < (c.length : Int) := by omega
    have hw : wa .i64 (a : Int) 1 = ((a + 1 : Nat) : Int) := wa1 (by omega)
    simp only [ret_bind, ret_if, ret_get, ret_set, ret_app, ret_mkL, ret_sli, ret_wr, ret_wq, ret_some, vq_l, vq_r, Int.toNat_natCast, if_true, if_false, obs, decide_false, decide_true, Bool.false_eq_true, Bool.not_true, Bool.not_false, not_true_eq_false, not_false_eq_true, true_implies, false_implies, reduceCtorEq, true_and, and_true, false_and, or_false, false_or, implies_true, hk, e5, hw]
    refine ret_call (P := fun T' => Tr T' n (fun i j => (B i j ∨ PR c a i j) ∨ PB c a a i j)) ?_ ?_
    · refine ret_loop a (fun q (t : List (List Bool) × Int) => t.2 = q ∧ Tr t.1 n (fun i j => (B i j ∨ PR c a i j) ∨ PB c a q i j)) ⟨rfl, Tr.congr (fun i j _ _ => by simp [PB]) hT⟩ ?_
      rintro q ⟨T, i⟩ hq ⟨rfl, hT⟩
      simp only at hT
      unfold sparseref12_FromNormal_l14
      by_cases hqa : q < a
      · obtain ⟨y, hy⟩ : ∃ y, c[q]? = some y := ⟨c[q]'(by omega), by simp [show q < c.length by omega]⟩
        have hyr := hr y (mem_get hy)
        obtain ⟨w, rfl⟩ := Int.eq_ofNat_of_zero_le hyr.1
        obtain ⟨r, g1, g2, g3, _⟩ := hT.row (show v < n by omega)
        have hTl := hT.1
        have e2 : getI c (q : Int) = some (w : Int) := hy
        have e6 : (q : Int) < (a : Int) := by omega
        have hw2 : wa .i64 (q : Int) 1 = ((q + 1 : Nat) : Int) := wa1 (by omega)
        simp only [ret_bind, ret_if, ret_get, ret_set, ret_app, ret_mkL, ret_sli, ret_wr, ret_wq, ret_some, vq_l, vq_r, Int.toNat_natCast, if_true, if_false, obs, decide_false, decide_true, Bool.false_eq_true, Bool.not_true, Bool.not_false, not_true_eq_false, not_false_eq_true, true_implies, false_implies, reduceCtorEq, true_and, and_true, false_and, or_false, false_or, implies_true, hk, e1, e2, e6, hw2, g1]
        refine ⟨by omega, by omega, by omega, by omega, hqa, Tr.congr (fun i j _ _ => ?_) (hT.on (j := w) (show v < n by omega) g2)⟩
        rw [PB.succ hx hy]
        constructor
        · rintro (h | h | h)
          · exact .inr (.inr h)
          · exact .inl h
          · exact .inr (.inl h)
        · rintro (h | h | h)
          · exact .inr (.inl h)
          · exact .inr (.inr h)
          · exact .inl h
      · have e6 : ¬ (q : Int) < (a : Int) := by omega
        have : q = a := by omega
        subst this
        simp only [ret_bind, ret_if, ret_get, ret_set, ret_app, ret_mkL, ret_sli, ret_wr, ret_wq, ret_some, vq_l, vq_r, Int.toNat_natCast, if_true, if_false, obs, decide_false, decide_true, Bool.false_eq_true, Bool.not_true, Bool.not_false, not_true_eq_false, not_false_eq_true, true_implies, false_implies, reduceCtorEq, true_and, and_true, false_and, or_false, false_or, implies_true, e6]
        exact hT
    · intro T' hT'
      refine ⟨hac, Tr.congr (fun i j _ _ => ?_) hT'⟩
      rw [PR.succ]
      exact or_assoc
  · have e5 : ¬ (a : Int) < (c.length : Int) := by omega
    have : a = c.length := by omega
    subst this
    simp only [ret_bind, ret_if, ret_get, ret_set, ret_app, ret_mkL, ret_sli, ret_wr, ret_wq, ret_some, vq_l, vq_r, Int.toNat_natCast, if_true, if_false, obs, decide_false, decide_true, Bool.false_eq_true, Bool.not_true, Bool.not_false, not_true_eq_false, not_false_eq_true, true_implies, false_implies, reduceCtorEq, true_and, and_true, false_and, or_false, false_or, implies_true, hk, e5]
    exact hT

def RR (rows : List (List Int)) (i j : Nat) : Prop := ∃ c, c ∈ rows ∧ PR c c.length i j
theorem RR.succ {rows : List (List Int)} {k : Nat} {c : List Int} (h : rows[k]? = some c) {i j : Nat} : RR (rows.take (k + 1)) i j ↔ RR (rows.take k) i j ∨ PR c c.length i j := by
  unfold RR
  constructor
  · rintro ⟨x, hx, h1⟩
    rw [mts h] at hx
    rcases hx with hx | rfl
    · exact .inl ⟨x, hx, h1⟩
    · exact .inr h1
  · rintro (⟨x, hx, h1⟩ | h1)
    · exact ⟨x, (mts h).2 (.inl hx), h1⟩
    · exact ⟨c, (mts h).2 (.inr rfl), h1⟩

theorem fn_p {rows : List (List Int)} {n : Nat} (hl : rows.length ≤ 100000) (hs : ∀ c, c ∈ rows → c.length ≤ 100000 ∧ ∀ x, x ∈ c → 0 ≤ x ∧ x < (n : Int)) :
    Ret (loop (graph_FromNormal_l10 rows) (List.replicate n (List.replicate n false), 0)) (fun T => Tr T n (fun i j => i ≠ j ∧ (RR rows i j ∨ RR rows j i))) := by
  refine ret_loop rows.length (fun k (t : List (List Bool) × Int) => t.2 = k ∧ Tr t.1 n (fun i j => i ≠ j ∧ (RR (rows.take k) i j ∨ RR (rows.take k) j i))) ⟨rfl, Tr.congr (fun i j _ _ => by simp [RR]) (Tr.blank n)⟩ ?_
  rintro k ⟨T, i⟩ hk ⟨rfl, hT⟩
  simp only at hT
  unfold graph_FromNormal_l10
  by_cases hkl : k < rows.length
  · obtain ⟨c, hc⟩ : ∃ c, rows[k]? = some c := ⟨rows[k], by simp [hkl]⟩
    obtain ⟨c1, c2⟩ := hs c (mem_get hc)
    have e1 : getI rows (k : Int) = some c := hc
    have e5 : (k : Int) < (rows.length : Int) := by omega
    have hw : wa .i64 (k : Int) 1 = ((k + 1 : Nat) : Int) := wa1 (by omega)
    simp only [ret_bind, ret_if, ret_get, ret_set, ret_app, ret_mkL, ret_sli, ret_wr, ret_wq, ret_some, vq_l, vq_r, Int.toNat_natCast, if_true, if_false, obs, decide_false, decide_true, Bool.false_eq_true, Bool.not_true, Bool.not_false, not_true_eq_false, not_false_eq_true, true_implies, false_implies, reduceCtorEq, true_and, and_true, false_and, or_false, false_or, implies_true, e1, e5, hw]
    refine ret_call (row_p c1 c2 hT) (fun T' hT' => ⟨hkl, Tr.congr (fun i j _ _ => ?_) hT'⟩)
    rw [RR.succ hc, RR.succ hc]
    constructor
    · rintro (⟨h1, h2⟩ | ⟨h1, h2⟩)
      · exact ⟨h1, h2.imp .inl .inl⟩
      · exact ⟨h1, h2.imp .inr .inr⟩
    · rintro ⟨h1, (h | h) | (h | h)⟩
      · exact .inl ⟨h1, .inl h⟩
      · exact .inr ⟨h1, .inl h⟩
      · exact .inl ⟨h1, .inr h⟩
      · exact .inr ⟨h1, .inr h⟩
  · have e5 : ¬ (k : Int) < (rows.length : Int) := by omega
    simp only [ret_bind, ret_if, ret_get, ret_set, ret_app, ret_mkL, ret_sli, ret_wr, ret_wq, ret_some, vq_l, vq_r, Int.toNat_natCast, if_true, if_false, obs, decide_false, decide_true, Bool.false_eq_true, Bool.not_true, Bool.not_false, not_true_eq_false, not_false_eq_true, true_implies, false_implies, reduceCtorEq, true_and, and_true, false_and, or_false, false_or, implies_true, e5]
    rwa [take_all (by omega)] at hT
theorem fn_r {rows : List (List Int)} {n : Nat} (hl : rows.length ≤ 100000) (hs : ∀ c, c ∈ rows → c.length ≤ 100000 ∧ ∀ x, x ∈ c → 0 ≤ x ∧ x < (n : Int)) :
    Ret (loop (sparseref12_FromNormal_l10 rows) (List.replicate n (List.replicate n false), 0)) (fun T => Tr T n (RR rows)) := by
  refine ret_loop rows.length (fun k (t : List (List Bool) × Int) => t.2 = k ∧ Tr t.1 n (RR (rows.take k))) ⟨rfl, Tr.congr (fun i j _ _ => by simp [RR]) (Tr.blank n)⟩ ?_
  rintro k ⟨T, i⟩ hk ⟨rfl, hT⟩
  simp only at hT
  unfold sparseref12_FromNormal_l10
  by_cases hkl : k < rows.length
  · obtain ⟨c, hc⟩ : ∃ c, rows[k]? = some c := ⟨rows[k], by simp [hkl]⟩
    obtain ⟨c1, c2⟩ := hs c (mem_get hc)
    have e5 : (k : Int) < (rows.length : Int) := by omega
    have hw : wa .i64 (k : Int) 1 = ((k + 1 : Nat) : Int) := wa1 (by omega)
    simp only [ret_bind, ret_if, ret_get, ret_set, ret_app, ret_mkL, ret_sli, ret_wr, ret_wq, ret_some, vq_l, vq_r, Int.toNat_natCast, if_true, if_false, obs, decide_false, decide_true, Bool.false_eq_true, Bool.not_true, Bool.not_false, not_true_eq_false, not_false_eq_true, true_implies, false_implies, reduceCtorEq, true_and, and_true, false_and, or_false, false_or, implies_true, e5, hw]
    exact ret_call (row_r (show getI rows (k : Int) = some c from hc) c1 c2 hT) (fun T' hT' => ⟨hkl, Tr.congr (fun i j _ _ => by rw [RR.succ hc]) hT'⟩)
  · have e5 : ¬ (k : Int) < (rows.length : Int) := by omega
    simp only [ret_bind, ret_if, ret_get, ret_set, ret_app, ret_mkL, ret_sli, ret_wr, ret_wq, ret_some, vq_l, vq_r, Int.toNat_natCast, if_true, if_false, obs, decide_false, decide_true, Bool.false_eq_true, Bool.not_true, Bool.not_false, not_true_eq_false, not_false_eq_true, true_implies, false_implies, reduceCtorEq, true_and, and_true, false_and, or_false, false_or, implies_true, e5]
    rwa [take_all (by omega)] at hT

theorem rows_ok {l : List (Int × Int × Int)} {m n : Nat} (hl : l.length ≤ 100000) (hr : ∀ e, e ∈ l → (0 ≤ e.1 ∧ e.1 < (m : Int)) ∧ (0 ≤ e.2.1 ∧ e.2.1 < (n : Int))) :
    Ret (loop (sparseref12_FromNormal_l1 l) (List.replicate m [], 0)) (fun rows => rows.length = m ∧ ∀ c, c ∈ rows → c.length ≤ 100000 ∧ ∀ x, x ∈ c → 0 ≤ x ∧ x < (n : Int)) := by
  refine ret_call (P := fun rows => rows.length = m ∧ ∀ c, c ∈ rows → c.length ≤ l.length ∧ ∀ x, x ∈ c → 0 ≤ x ∧ x < (n : Int)) ?_ (fun rows h => ⟨h.1, fun c hc => ⟨by have := (h.2 c hc).1; omega, (h.2 c hc).2⟩⟩)
  refine ret_loop l.length (fun k (t : List (List Int) × Int) => t.2 = k ∧ t.1.length = m ∧ ∀ c, c ∈ t.1 → c.length ≤ k ∧ ∀ x, x ∈ c → 0 ≤ x ∧ x < (n : Int)) ⟨rfl, by simp, fun c hc => by have := (List.mem_replicate.1 hc).2; subst this; simp⟩ ?_
  rintro k ⟨rows, i⟩ hk ⟨rfl, h1, h2⟩
  simp only at h1 h2
  unfold sparseref12_FromNormal_l1
  by_cases hkl : k < l.length
  · obtain ⟨x, hx⟩ : ∃ x, l[k]? = some x := ⟨l[k], by simp [hkl]⟩
    obtain ⟨⟨a1, a2⟩, b1, b2⟩ := hr x (mem_get hx)
    obtain ⟨v, hv⟩ := Int.eq_ofNat_of_zero_le a1
    obtain ⟨c, hc⟩ : ∃ c, rows[v]? = some c := ⟨rows[v]'(by omega), by simp [show v < rows.length by omega]⟩
    obtain ⟨c1, c2⟩ := h2 c (mem_get hc)
    have e1 : getI l (k : Int) = some x := hx
    have e2 : getI rows (v : Int) = some c := hc
    have e5 : (k : Int) < (l.length : Int) := by omega
    have hw : wa .i64 (k : Int) 1 = ((k + 1 : Nat) : Int) := wa1 (by omega)
    simp only [ret_bind, ret_if, ret_get, ret_set, ret_app, ret_mkL, ret_sli, ret_wr, ret_wq, ret_some, vq_l, vq_r, Int.toNat_natCast, if_true, if_false, obs, decide_false, decide_true, Bool.false_eq_true, Bool.not_true, Bool.not_false, not_true_eq_false, not_false_eq_true, true_implies, false_implies, reduceCtorEq, true_and, and_true, false_and, or_false, false_or, implies_true, e1, e2, e5, hw, hv]
    refine ⟨by rw [List.length_singleton]; omega, by omega, by omega, hkl, by simp [h1], fun c' hc' => ?_⟩
    rcases List.mem_or_eq_of_mem_set hc' with h | rfl
    · have := h2 c' h
      exact ⟨by omega, this.2⟩
    · refine ⟨by simp; omega, fun y hy => ?_⟩
      rw [List.mem_append, List.mem_singleton] at hy
      rcases hy with hy | rfl
      · exact c2 y hy
      · exact ⟨b1, b2⟩
  · have e5 : ¬ (k : Int) < (l.length : Int) := by omega
    have : k = l.length := by omega
    subst this
    simp only [ret_bind, ret_if, ret_get, ret_set, ret_app, ret_mkL, ret_sli, ret_wr, ret_wq, ret_some, vq_l, vq_r, Int.toNat_natCast, if_true, if_false, obs, decide_false, decide_true, Bool.false_eq_true, Bool.not_true, Bool.not_false, not_true_eq_false, not_false_eq_true, true_implies, false_implies, reduceCtorEq, true_and, and_true, false_and, or_false, false_or, implies_true, e5]
    exact ⟨h1, h2⟩

/-! ### the law -/
def OkG (g : List (List Int)) : Prop := g.length ≤ 100000 ∧ ∀ x, x ∈ g → x.length ≤ 100000
theorem okG_nil : OkG [] := ⟨by simp, by simp⟩
open Classical in
theorem okG_coll {n : Nat} (hn : n ≤ 1000) (R : Nat → Nat → Prop) : OkG ((List.range n).map fun v => coll (fun w => R v w) n) := by
  refine ⟨by simp; omega, fun x hx => ?_⟩
  simp only [List.mem_map] at hx
  obtain ⟨i, _, rfl⟩ := hx
  have := coll_len (tm := fun w => R i w) n
  omega
theorem graph_same {g : List (List Int)} (h : OkG g) : sparsekit_Graph g g = some true := by
  unfold sparsekit_Graph
  rw [klists_ok h.1 h.2]; simp

open Classical in
theorem fromMatrix_same {x1 x2 : Int} {x3 x5 x7 : List Int} (h3 : x3.length ≤ 1000) (h5 : x5.length ≤ 1000) (h7 : x7.length ≤ 1000) : ∃ g e, graph_FromMatrix x1 x2 x3 x5 x7 = some (g, e) ∧ sparseref12_FromMatrix x1 x2 x3 x5 x7 = some (g, e) ∧ OkG g := by
  obtain ⟨e, hp, hr, ho⟩ := checks (x1 := x1) (x2 := x2) (x3 := x3) (x5 := x5) (x7 := x7) (by omega) (by omega) (by omega)
  unfold graph_FromMatrix sparseref12_FromMatrix
  rw [bindS hp, bindS hr]
  by_cases he : e = 0
  · subst he
    have hV := ho.va
    obtain ⟨l, l1, l2, l3, l4⟩ := ents hV (by omega) hp hr
    rw [if_pos rfl, if_pos rfl]
    by_cases hx : x1 = x2
    · subst hx
      obtain ⟨n, rfl⟩ := Int.eq_ofNat_of_zero_le hV.sz.1.1
      have hn : n ≤ 200 := by have := hV.sz.1.2; omega
      rw [if_pos rfl, if_pos rfl, bindS (newSets_ok (by omega)), bindS (rempty_ok (by omega)), bindS l1, bindS l2]
      obtain ⟨T, t1, t2⟩ := fm_p (l := l) (n := n) (by omega) l4
      obtain ⟨T', t1', t2'⟩ := fm_r (l := l) (n := n) (by omega) l4
      rw [bindS t1, bindS t1', bindS (sgraph_ok t2 (by omega)), bindS (fromTable_ok t2'.tb (by omega))]
      refine ⟨_, _, rfl, ?_, okG_coll (show n ≤ 1000 by omega) (fun v w => v ≠ w ∧ (ER l v w ∨ ER l w v))⟩
      rw [lists_same (R' := ER l) (fun i j _ _ => Iff.rfl)]
    · rw [if_neg hx, if_neg hx]
      exact ⟨_, _, rfl, rfl, okG_nil⟩
  · rw [if_neg he, if_neg he]
    exact ⟨_, _, rfl, rfl, okG_nil⟩

open Classical in
theorem fromNormal_same {x1 x2 : Int} {x3 x5 x7 : List Int} (h3 : x3.length ≤ 1000) (h5 : x5.length ≤ 1000) (h7 : x7.length ≤ 1000) : ∃ g e, graph_FromNormal x1 x2 x3 x5 x7 = some (g, e) ∧ sparseref12_FromNormal x1 x2 x3 x5 x7 = some (g, e) ∧ OkG g := by
  obtain ⟨e, hp, hr, ho⟩ := checks (x1 := x1) (x2 := x2) (x3 := x3) (x5 := x5) (x7 := x7) (by omega) (by omega) (by omega)
  unfold graph_FromNormal sparseref12_FromNormal
  rw [bindS hp, bindS hr]
  by_cases he : e = 0
  · subst he
    have hV := ho.va
    obtain ⟨l, l1, l2, l3, l4⟩ := ents hV (by omega) hp hr
    obtain ⟨m, rfl⟩ := Int.eq_ofNat_of_zero_le hV.sz.1.1
    obtain ⟨n, rfl⟩ := Int.eq_ofNat_of_zero_le hV.sz.2.1.1
    have hm : m ≤ 200 := by have := hV.sz.1.2; omega
    have hn : n ≤ 200 := by have := hV.sz.2.1.2; omega
    obtain ⟨rows, r1, r2, r3⟩ := rows_ok (l := l) (m := m) (n := n) (by omega) l4
    obtain ⟨T, t1, t2⟩ := fn_p (rows := rows) (n := n) (by omega) r3
    obtain ⟨T', t1', t2'⟩ := fn_r (rows := rows) (n := n) (by omega) r3
    rw [if_pos rfl, if_pos rfl, bindS (mkL_nat ([] : List Int) m (by omega)), bindS (mkL_nat ([] : List Int) m (by omega)), bindS l1, bindS l2, nor_l1, bindS r1, bindS r1, bindS (newSets_ok (by omega)), bindS (rempty_ok (by omega)), bindS t1, bindS t1', bindS (sgraph_ok t2 (by omega)), bindS (fromTable_ok t2'.tb (by omega))]
    refine ⟨_, _, rfl, ?_, okG_coll (show n ≤ 1000 by omega) (fun v w => v ≠ w ∧ (RR rows v w ∨ RR rows w v))⟩
    rw [lists_same (R' := RR rows) (fun i j _ _ => Iff.rfl)]
  · rw [if_neg he, if_neg he]
    exact ⟨_, _, rfl, rfl, okG_nil⟩

theorem graphMatrix_true (x1 x2 : Int) (x3 x5 x7 : List Int) : sparselaw12_GraphMatrix x1 x2 x3 x5 x7 = some true := by
  unfold sparselaw12_GraphMatrix
  split
  · rw [awake12]; rfl
  · rename_i hc
    simp only [Bool.or_eq_true, decide_eq_true_eq, not_or] at hc
    obtain ⟨g, e, g1, g2, g3⟩ := fromMatrix_same (x1 := x1) (x2 := x2) (x3 := x3) (x5 := x5) (x7 := x7) (by omega) (by omega) (by omega)
    obtain ⟨g', e', g1', g2', g3'⟩ := fromNormal_same (x1 := x1) (x2 := x2) (x3 := x3) (x5 := x5) (x7 := x7) (by omega) (by omega) (by omega)
    rw [bindS g1, bindS g2, bindS g1', bindS g2', bindS (graph_same g3), bindS (graph_same g3')]
    simp [awake12]
end Pl
