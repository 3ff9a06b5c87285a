/- The program's entries and normal graph (from PuH, PtH, PtD), where the document's are not there. -/
import Derived.Test.YtoelidgkfpmgnaaDoorPuC
import Derived.Test.YtoelidgkfpmgnaaDoorPvA
set_option linter.unusedSimpArgs false
set_option linter.unusedVariables false
namespace Pw
open Pu Pv Pl Sx Go M Vc

def coll (tm : Nat → Prop) [DecidablePred tm] : Nat → List Int
  | 0 => []
  | m + 1 => coll tm m ++ (if tm m then [(m : Int)] else [])
theorem coll_mem {tm : Nat → Prop} [DecidablePred tm] {x : Int} : ∀ m, x ∈ coll tm m ↔ 0 ≤ x ∧ x.toNat < m ∧ tm x.toNat := by
  intro m
  induction m with
  | zero => simp [coll]
  | succ m ih =>
    rw [coll, List.mem_append, ih]
    constructor
    · rintro (h | h)
      · exact ⟨h.1, by omega, h.2.2⟩
      · split at h
        · rename_i hc
          simp only [List.mem_singleton] at h; subst h
          exact ⟨by omega, by omega, by simpa using hc⟩
        · simp at h
    · rintro ⟨h1, h2, h3⟩
      by_cases hx : x.toNat = m
      · right
        rw [hx] at h3
        rw [if_pos h3]
        simp; omega
      · exact .inl ⟨h1, by omega, h3⟩
theorem coll_asc {tm : Nat → Prop} [DecidablePred tm] : ∀ m, (coll tm m).Pairwise (· < ·) := by
  intro m
  induction m with
  | zero => exact .nil
  | succ m ih =>
    rw [coll, List.pairwise_append]
    refine ⟨ih, ?_, ?_⟩
    · split <;> simp
    · intro x hx y hy
      have := (coll_mem m).1 hx
      split at hy
      · simp at hy; omega
      · simp at hy
theorem coll_len {tm : Nat → Prop} [DecidablePred tm] : ∀ m, (coll tm m).length ≤ m := by
  intro m
  induction m with
  | zero => simp [coll]
  | succ m ih => rw [coll, List.length_append]; split <;> simp <;> omega

theorem newSets_ok {n : Nat} (hn : n ≤ 1000) : graph_NewSets (n : Int) = some (List.replicate n (List.replicate n false)) := by
  refine Ret.eq ?_
  unfold graph_NewSets
  simp only [ret_bind, ret_mkL, ret_some, Int.toNat_natCast]
  refine ⟨by omega, by omega, ?_⟩
  refine ret_loop n (fun k (t : List (List Bool) × Int) => t.2 = k ∧ t.1.length = n ∧ ∀ u, u < k → t.1[u]? = some (List.replicate n false)) ⟨rfl, by simp, fun u h => by omega⟩ ?_
  rintro k ⟨t, i⟩ hk ⟨rfl, h1, h2⟩
  simp only at h1 h2
  unfold graph_NewSets_l1
  have hlen : (List.replicate n ([] : List Bool)).length = n := by simp
  by_cases hkn : k < n
  · have hw : wa .i64 (k : Int) 1 = ((k + 1 : Nat) : Int) := wa1 (by omega)
    have e5 : (k : Int) < (n : Int) := by omega
    simp only [ret_bind, ret_if, ret_get, ret_set, ret_app, ret_mkL, ret_sli, ret_wr, ret_wq, ret_some, vq_l, vq_r, Int.toNat_natCast, if_true, if_false, obs, decide_false, decide_true, Bool.false_eq_true, Bool.not_true, Bool.not_false, not_true_eq_false, not_false_eq_true, true_implies, false_implies, reduceCtorEq, hlen, e5, hw]
    refine ⟨by omega, by omega, by omega, by omega, hkn, trivial, by simp [h1], fun u hu => ?_⟩
    rw [List.getElem?_set]
    by_cases hku : k = u
    · rw [if_pos hku, if_pos (by omega)]
    · rw [if_neg hku]; exact h2 u (by omega)
  · have e5 : ¬ (k : Int) < (n : Int) := by omega
    simp only [ret_bind, ret_if, ret_get, ret_set, ret_app, ret_mkL, ret_sli, ret_wr, ret_wq, ret_some, vq_l, vq_r, Int.toNat_natCast, if_true, if_false, obs, decide_false, decide_true, Bool.false_eq_true, Bool.not_true, Bool.not_false, not_true_eq_false, not_false_eq_true, true_implies, false_implies, reduceCtorEq, hlen, e5]
    apply List.ext_getElem?
    intro u
    by_cases hu : u < n
    · rw [h2 u (by omega)]; simp [hu]
    · rw [List.getElem?_eq_none (by omega), List.getElem?_eq_none (by simp; omega)]

theorem join_ok {T : List (List Bool)} {n : Nat} {R : Nat → Nat → Prop} (hT : Tr T n R) {v w : Nat} (hv : v < n) (hw : w < n) : ∃ T', graph_Sets_Join T (v : Int) (w : Int) = some T' ∧ Tr T' n (fun a c => (v ≠ w ∧ ((a = v ∧ c = w) ∨ (a = w ∧ c = v))) ∨ R a c) := by
  unfold graph_Sets_Join graph_Sets_Join_j1
  by_cases hvw : v = w
  · subst hvw
    exact ⟨T, by rw [if_pos rfl], Tr.congr (fun a c _ _ => by simp) hT⟩
  · rw [if_neg (by omega)]
    obtain ⟨r, g1, g2, g3, _⟩ := hT.row hv
    obtain ⟨r', g1', g2', g3', _⟩ := hT.row hw
    have hT2 := hT.on (j := w) hv g2
    obtain ⟨r2, k1, k2, k3, _⟩ := hT2.row hw
    have hTl := hT.1
    rw [bindS g1, bindS g1', bindS (setI_lt (by omega)), bindS (setI_lt (by omega)), bindS k1, bindS (setI_lt (by omega)), bindS (setI_lt (by simp; omega))]
    exact ⟨_, rfl, Tr.congr (fun a c _ _ => by
      constructor
      · rintro (h | h | h)
        · exact .inl ⟨hvw, .inr h⟩
        · exact .inl ⟨hvw, .inl h⟩
        · exact .inr h
      · rintro (⟨_, h | h⟩ | h)
        · exact .inr (.inl h)
        · exact .inl h
        · exact .inr (.inr h)) (hT2.on (j := v) hw k2)⟩

open Classical in
theorem list_ok {T : List (List Bool)} {n : Nat} {R : Nat → Nat → Prop} (hT : Tr T n R) (hn : n ≤ 1000) {v : Nat} (hv : v < n) : graph_Sets_List T (v : Int) = some (coll (fun w => R v w) n) := by
  obtain ⟨r, g1, g2, g3, g4⟩ := hT.row hv
  refine Ret.eq ?_
  unfold graph_Sets_List
  rw [bindS g1]
  simp only [ret_bind, ret_some]
  refine ret_loop n (fun k (t : List Int × Int) => t.2 = k ∧ t.1 = coll (fun w => R v w) k) ⟨rfl, rfl⟩ ?_
  rintro k ⟨t, i⟩ hk ⟨rfl, rfl⟩
  unfold graph_Sets_List_l3 graph_Sets_List_j4
  have hcl := coll_len (tm := fun w => R v w) k
  by_cases hkn : k < n
  · obtain ⟨b, e1, e2⟩ := g4 k hkn
    have hw : wa .i64 (k : Int) 1 = ((k + 1 : Nat) : Int) := wa1 (by omega)
    have e5 : (k : Int) < (r.length : Int) := by omega
    simp only [ret_bind, ret_if, ret_get, ret_set, ret_app, ret_mkL, ret_sli, ret_wr, ret_wq, ret_some, vq_l, vq_r, Int.toNat_natCast, if_true, if_false, obs, decide_false, decide_true, Bool.false_eq_true, Bool.not_true, Bool.not_false, not_true_eq_false, not_false_eq_true, true_implies, false_implies, reduceCtorEq, e1, e5, hw]
    refine ⟨fun h => ⟨by simp; omega, hkn, trivial, ?_⟩, fun h => ⟨hkn, trivial, ?_⟩⟩
    · rw [coll, if_pos (e2.1 h)]
    · rw [coll, if_neg (fun hh => h (e2.2 hh)), List.append_nil]
  · have e5 : ¬ (k : Int) < (r.length : Int) := by omega
    have : k = n := by omega
    subst this
    simp only [ret_bind, ret_if, ret_get, ret_set, ret_app, ret_mkL, ret_sli, ret_wr, ret_wq, ret_some, vq_l, vq_r, Int.toNat_natCast, if_true, if_false, obs, decide_false, decide_true, Bool.false_eq_true, Bool.not_true, Bool.not_false, not_true_eq_false, not_false_eq_true, true_implies, false_implies, reduceCtorEq, e5]

open Classical in
theorem sgraph_ok {T : List (List Bool)} {n : Nat} {R : Nat → Nat → Prop} (hT : Tr T n R) (hn : n ≤ 1000) : graph_Sets_Graph T = some ((List.range n).map fun v => coll (fun w => R v w) n) := by
  refine Ret.eq ?_
  have hTl := hT.1
  unfold graph_Sets_Graph
  simp only [ret_bind, ret_mkL, ret_some, Int.toNat_natCast]
  refine ⟨by omega, by omega, ?_⟩
  refine ret_loop n (fun k (t : List (List Int) × Int) => t.2 = k ∧ t.1.length = n ∧ ∀ u, u < k → t.1[u]? = some (coll (fun w => R u w) n)) ⟨rfl, by simp [hTl], fun u h => by omega⟩ ?_
  rintro k ⟨t, i⟩ hk ⟨rfl, h1, h2⟩
  simp only at h1 h2
  unfold graph_Sets_Graph_l1
  by_cases hkn : k < n
  · have hw : wa .i64 (k : Int) 1 = ((k + 1 : Nat) : Int) := wa1 (by omega)
    have e5 : (k : Int) < (T.length : Int) := by omega
    simp only [ret_bind, ret_if, ret_get, ret_set, ret_app, ret_mkL, ret_sli, ret_wr, ret_wq, ret_some, vq_l, vq_r, Int.toNat_natCast, if_true, if_false, obs, decide_false, decide_true, Bool.false_eq_true, Bool.not_true, Bool.not_false, not_true_eq_false, not_false_eq_true, true_implies, false_implies, reduceCtorEq, e5, hw, list_ok hT hn hkn]
    refine ⟨by omega, by omega, hkn, trivial, by simp [h1], fun u hu => ?_⟩
    rw [List.getElem?_set]
    by_cases hku : k = u
    · subst hku; rw [if_pos rfl, if_pos (by omega)]
    · rw [if_neg hku]; exact h2 u (by omega)
  · have e5 : ¬ (k : Int) < (T.length : Int) := by omega
    simp only [ret_bind, ret_if, ret_get, ret_set, ret_app, ret_mkL, ret_sli, ret_wr, ret_wq, ret_some, vq_l, vq_r, Int.toNat_natCast, if_true, if_false, obs, decide_false, decide_true, Bool.false_eq_true, Bool.not_true, Bool.not_false, not_true_eq_false, not_false_eq_true, true_implies, false_implies, reduceCtorEq, e5]
    apply List.ext_getElem?
    intro u
    by_cases hu : u < n
    · rw [h2 u (by omega)]; simp [hu]
    · rw [List.getElem?_eq_none (by omega), List.getElem?_eq_none (by simp; omega)]

theorem entries_ok {x1 x2 : Int} {x3 x5 x7 : List Int} (h : Va x1 x2 x3 x5 x7) (h5 : x5.length ≤ 100000) :
    Ret (loop (matrix_entries_l3 x2 x3 x5 x7) ([], 0)) (fun l => l.length ≤ x5.length ∧ (∀ e, e ∈ l → Bd x1 x2 e) ∧ l.Pairwise LT) := by
  obtain ⟨hs1, hs2, hs3⟩ := h.sz
  obtain ⟨n, rfl⟩ := Int.eq_ofNat_of_zero_le hs2.1
  have hl : x3.length = n + 1 := by have := h.hd.ls; omega
  have hsn : x3[n]? = some (x5.length : Int) := by simpa using h.hd.sn
  have hv := h.hd.lv
  refine ret_loop n (fun k (t : List (Int × Int × Int) × Int) => t.2 = k ∧ x3[k]? = some (t.1.length : Int) ∧ (∀ e, e ∈ t.1 → Bd x1 n e ∧ e.2.1 < (k : Int)) ∧ t.1.Pairwise LT) ⟨rfl, by simpa using h.hd.s0, (fun e he => by simp at he), .nil⟩ ?_
  rintro k ⟨l, i⟩ hk ⟨rfl, hkl, hI, hP⟩
  simp only at hkl hI hP
  unfold matrix_entries_l3
  by_cases hkn : k < n
  · have hwk : wa .i64 (k : Int) 1 = ((k + 1 : Nat) : Int) := wa1 (by omega)
    obtain ⟨b, hb⟩ : ∃ b, x3[k + 1]? = some b := ⟨x3[k + 1]'(by omega), by simp [show k + 1 < x3.length by omega]⟩
    have hab := h.mo k _ b hkl hb
    have hbn := mo_le h.mo (show k + 1 ≤ n by omega) hb hsn
    obtain ⟨b, rfl⟩ := Int.eq_ofNat_of_zero_le (show 0 ≤ b by omega)
    have e1 : getI x3 (k : Int) = some (l.length : Int) := hkl
    have e2 : getI x3 ((k + 1 : Nat) : Int) = some (b : Int) := hb
    have e5 : (k : Int) < (n : Int) := by omega
    simp only [ret_bind, ret_if, e1, e5, ret_some, vq_l, vq_r, hwk, true_implies, not_true_eq_false, false_implies, and_true]
    refine ret_call (P := fun l' => l'.length = b ∧ (∀ e, e ∈ l' → Bd x1 n e ∧ e.2.1 ≤ (k : Int)) ∧ l'.Pairwise LT) ?_ (fun l' hl' => ⟨hkn, trivial, by rw [hb, hl'.1], fun e he => ⟨(hl'.2.1 e he).1, by have := (hl'.2.1 e he).2; omega⟩, hl'.2.2⟩)
    refine ret_loop (b - l.length) (fun m (t : List (Int × Int × Int) × Int) => t.2 = ((l.length + m : Nat) : Int) ∧ t.1.length = l.length + m ∧ (∀ e, e ∈ t.1 → Bd x1 n e ∧ (e.2.1 < (k : Int) ∨ (e.2.1 = (k : Int) ∧ 0 < m ∧ ∀ z, x5[l.length + m - 1]? = some z → e.1 ≤ z))) ∧ t.1.Pairwise LT) ⟨rfl, rfl, (fun e he => ⟨(hI e he).1, .inl (hI e he).2⟩), hP⟩ ?_
    rintro m ⟨l', i⟩ hm ⟨h0, h1, h2, hP⟩
    simp only at h0 h1 h2 hP
    subst h0
    unfold matrix_entries_l4
    by_cases hmb : l.length + m < b
    · obtain ⟨x, hx⟩ : ∃ x, x5[l.length + m]? = some x := ⟨x5[l.length + m]'(by omega), by simp [show l.length + m < x5.length by omega]⟩
      obtain ⟨y, hy⟩ : ∃ y, x7[l.length + m]? = some y := ⟨x7[l.length + m]'(by omega), by simp [show l.length + m < x7.length by omega]⟩
      have e3 : getI x5 ((l.length + m : Nat) : Int) = some x := hx
      have e4 : getI x7 ((l.length + m : Nat) : Int) = some y := hy
      have e6 : ((l.length + m : Nat) : Int) < (b : Int) := by omega
      have hw2 : wa .i64 ((l.length + m : Nat) : Int) 1 = ((l.length + (m + 1) : Nat) : Int) := by rw [wa1 (by omega)]; congr 1
      have hc := h.cl k _ _ hkl hb (l.length + m) x (by omega) (by omega) hx
      simp only [ret_bind, ret_if, ret_get, ret_set, ret_app, ret_mkL, ret_sli, ret_wr, ret_wq, ret_some, vq_l, vq_r, Int.toNat_natCast, if_true, if_false, obs, decide_false, decide_true, Bool.false_eq_true, Bool.not_true, Bool.not_false, not_true_eq_false, not_false_eq_true, true_implies, false_implies, reduceCtorEq, true_and, and_true, false_and, or_false, false_or, implies_true, hwk, e2, e3, e4, e6, hw2]
      refine ⟨by rw [h1, List.length_singleton]; omega, by omega, by rw [List.length_append, h1, List.length_singleton]; omega, fun e he => ?_, lt_snoc hP (fun e he => ?_)⟩
      · rw [List.mem_append, List.mem_singleton] at he
        rcases he with he | rfl
        · refine ⟨(h2 e he).1, ?_⟩
          rcases (h2 e he).2 with h3 | ⟨h3, h4, h6⟩
          · exact .inl h3
          · refine .inr ⟨h3, by omega, fun z hz => ?_⟩
            rw [show l.length + (m + 1) - 1 = l.length + m by omega, hx] at hz
            obtain rfl := Option.some.inj hz
            obtain ⟨u, hu⟩ : ∃ u, x5[l.length + m - 1]? = some u := ⟨x5[l.length + m - 1]'(by omega), by simp [show l.length + m - 1 < x5.length by omega]⟩
            have := h6 u hu
            have := hc.2.2 (by omega) u hu
            omega
        · refine ⟨⟨⟨hc.1, hc.2.1⟩, by simp only; omega, by simp only; omega⟩, .inr ⟨rfl, by omega, fun z hz => ?_⟩⟩
          rw [show l.length + (m + 1) - 1 = l.length + m by omega, hx] at hz
          obtain rfl := Option.some.inj hz
          exact Int.le_refl _
      · rcases (h2 e he).2 with h3 | ⟨h3, h4, h6⟩
        · exact .inl h3
        · refine .inr ⟨h3, ?_⟩
          obtain ⟨u, hu⟩ : ∃ u, x5[l.length + m - 1]? = some u := ⟨x5[l.length + m - 1]'(by omega), by simp [show l.length + m - 1 < x5.length by omega]⟩
          have := h6 u hu
          have := hc.2.2 (by omega) u hu
          simp only; omega
    · have e6 : ¬ ((l.length + m : Nat) : Int) < (b : Int) := by omega
      simp only [ret_bind, ret_if, ret_get, ret_set, ret_app, ret_mkL, ret_sli, ret_wr, ret_wq, ret_some, vq_l, vq_r, Int.toNat_natCast, if_true, if_false, obs, decide_false, decide_true, Bool.false_eq_true, Bool.not_true, Bool.not_false, not_true_eq_false, not_false_eq_true, true_implies, false_implies, reduceCtorEq, true_and, and_true, false_and, or_false, false_or, implies_true, hwk, e2, e6]
      exact ⟨by omega, (fun e he => ⟨(h2 e he).1, by rcases (h2 e he).2 with h3 | ⟨h3, _⟩ <;> omega⟩), hP⟩
  · have e5 : ¬ (k : Int) < (n : Int) := by omega
    simp only [ret_bind, ret_if, ret_get, ret_set, ret_app, ret_mkL, ret_sli, ret_wr, ret_wq, ret_some, vq_l, vq_r, Int.toNat_natCast, if_true, if_false, obs, decide_false, decide_true, Bool.false_eq_true, Bool.not_true, Bool.not_false, not_true_eq_false, not_false_eq_true, true_implies, false_implies, reduceCtorEq, true_and, and_true, false_and, or_false, false_or, implies_true, e5]
    have : k = n := by omega
    subst this
    rw [hsn] at hkl
    have := Option.some.inj hkl
    exact ⟨by omega, (fun e he => (hI e he).1), hP⟩

theorem ents {x1 x2 : Int} {x3 x5 x7 : List Int} (h : Va x1 x2 x3 x5 x7) (h5 : x5.length ≤ 100000) (hp : matrix_Check x1 x2 x3 x5 x7 = some 0) :
    ∃ l, matrix_Entries x1 x2 x3 x5 x7 = some l ∧ l.length ≤ x5.length ∧ (∀ e, e ∈ l → Bd x1 x2 e) ∧ l.Pairwise LT := by
  obtain ⟨l, h1, h2, h3⟩ := entries_ok h h5
  refine ⟨l, ?_, h2, h3⟩
  unfold matrix_Entries matrix_entries
  rw [bindS hp, if_pos rfl, h1]; rfl

theorem row_p {c : List Int} {n : Nat} (hc : c.length ≤ 100000) (hr : ∀ x, x ∈ c → 0 ≤ x ∧ x < (n : Int)) {T : List (List Bool)} {B : Nat → Nat → Prop} (hT : Tr T n B) :
    Ret (loop (graph_FromNormal_l13 c) (T, 0)) (fun T' => Tr T' n (fun i j => B i j ∨ (i ≠ j ∧ (PR c c.length i j ∨ PR c c.length j i)))) := by
  refine ret_loop c.length (fun a (t : List (List Bool) × Int) => t.2 = a ∧ Tr t.1 n (fun i j => B i j ∨ (i ≠ j ∧ (PR c a i j ∨ PR c a j i)))) ⟨rfl, Tr.congr (fun i j _ _ => by simp [PR]) hT⟩ ?_
  rintro a ⟨T, i⟩ ha ⟨rfl, hT⟩
  simp only at hT
  unfold graph_FromNormal_l13
  by_cases hac : a < c.length
  · obtain ⟨x, hx⟩ : ∃ x, c[a]? = some x := ⟨c[a], by simp [hac]⟩
    have hxr := hr x (mem_get hx)
    obtain ⟨v, rfl⟩ := Int.eq_ofNat_of_zero_le hxr.1
    have e1 : getI c (a : Int) = some (v : Int) := hx
    have e5 : (a : Int) < (c.length : Int) := by omega
    have hw : wa .i64 (a : Int) 1 = ((a + 1 : Nat) : Int) := wa1 (by omega)
    have hz : (0 : Int).toNat = 0 := rfl
    simp only [ret_bind, ret_if, ret_get, ret_set, ret_app, ret_mkL, ret_sli, ret_wr, ret_wq, ret_some, vq_l, vq_r, Int.toNat_natCast, if_true, if_false, obs, decide_false, decide_true, Bool.false_eq_true, Bool.not_true, Bool.not_false, not_true_eq_false, not_false_eq_true, true_implies, false_implies, reduceCtorEq, true_and, and_true, false_and, or_false, false_or, implies_true, e1, e5, hw, hz, List.drop_zero]
    refine ⟨by omega, by omega, by omega, ?_⟩
    refine ret_call (P := fun T' => Tr T' n (fun i j => (B i j ∨ (i ≠ j ∧ (PR c a i j ∨ PR c a j i))) ∨ (i ≠ j ∧ (PB c a a i j ∨ PB c a a j i)))) ?_ ?_
    · refine ret_loop a (fun q (t : List (List Bool) × Int) => t.2 = q ∧ Tr t.1 n (fun i j => (B i j ∨ (i ≠ j ∧ (PR c a i j ∨ PR c a j i))) ∨ (i ≠ j ∧ (PB c a q i j ∨ PB c a q j i)))) ⟨rfl, Tr.congr (fun i j _ _ => by simp [PB]) hT⟩ ?_
      rintro q ⟨T, i⟩ hq ⟨rfl, hT⟩
      simp only at hT
      unfold graph_FromNormal_l14
      have hll : (c.take a).length = a := by simp; omega
      by_cases hqa : q < a
      · obtain ⟨y, hy⟩ : ∃ y, c[q]? = some y := ⟨c[q]'(by omega), by simp [show q < c.length by omega]⟩
        have hyr := hr y (mem_get hy)
        obtain ⟨w, rfl⟩ := Int.eq_ofNat_of_zero_le hyr.1
        obtain ⟨T', j1, j2⟩ := join_ok hT (show w < n by omega) (show v < n by omega)
        have e2 : getI (c.take a) (q : Int) = some (w : Int) := by rw [getI_cast, List.getElem?_take, if_pos hqa, hy]
        have e6 : (q : Int) < ((c.take a).length : Int) := by omega
        have hw2 : wa .i64 (q : Int) 1 = ((q + 1 : Nat) : Int) := wa1 (by omega)
        simp only [ret_bind, ret_if, ret_get, ret_set, ret_app, ret_mkL, ret_sli, ret_wr, ret_wq, ret_some, vq_l, vq_r, Int.toNat_natCast, if_true, if_false, obs, decide_false, decide_true, Bool.false_eq_true, Bool.not_true, Bool.not_false, not_true_eq_false, not_false_eq_true, true_implies, false_implies, reduceCtorEq, true_and, and_true, false_and, or_false, false_or, implies_true, e2, e6, hw2, j1]
        refine ⟨hqa, Tr.congr (fun i j _ _ => ?_) j2⟩
        rw [PB.succ hx hy, PB.succ hx hy]
        constructor
        · rintro (⟨h1, ⟨rfl, rfl⟩ | ⟨rfl, rfl⟩⟩ | h | ⟨h1, h2⟩)
          · exact .inr ⟨h1, .inr (.inr ⟨rfl, rfl⟩)⟩
          · exact .inr ⟨fun h => h1 h.symm, .inl (.inr ⟨rfl, rfl⟩)⟩
          · exact .inl h
          · exact .inr ⟨h1, h2.imp .inl .inl⟩
        · rintro (h | ⟨h1, (h | ⟨rfl, rfl⟩) | (h | ⟨rfl, rfl⟩)⟩)
          · exact .inr (.inl h)
          · exact .inr (.inr ⟨h1, .inl h⟩)
          · exact .inl ⟨fun h => h1 h.symm, .inr ⟨rfl, rfl⟩⟩
          · exact .inr (.inr ⟨h1, .inr h⟩)
          · exact .inl ⟨h1, .inl ⟨rfl, rfl⟩⟩
      · have e6 : ¬ (q : Int) < ((c.take a).length : Int) := by omega
        have : q = a := by omega
        subst this
        simp only [ret_bind, ret_if, ret_get, ret_set, ret_app, ret_mkL, ret_sli, ret_wr, ret_wq, ret_some, vq_l, vq_r, Int.toNat_natCast, if_true, if_false, obs, decide_false, decide_true, Bool.false_eq_true, Bool.not_true, Bool.not_false, not_true_eq_false, not_false_eq_true, true_implies, false_implies, reduceCtorEq, true_and, and_true, false_and, or_false, false_or, implies_true, e6]
        exact hT
    · intro T' hT'
      refine ⟨hac, Tr.congr (fun i j _ _ => ?_) hT'⟩
      rw [PR.succ, PR.succ]
      constructor
      · rintro ((h | ⟨h1, h2⟩) | ⟨h1, h2⟩)
        · exact .inl h
        · exact .inr ⟨h1, h2.imp .inl .inl⟩
        · exact .inr ⟨h1, h2.imp .inr .inr⟩
      · rintro (h | ⟨h1, (h | h) | (h | h)⟩)
        · exact .inl (.inl h)
        · exact .inl (.inr ⟨h1, .inl h⟩)
        · exact .inr ⟨h1, .inl h⟩
        · exact .inl (.inr ⟨h1, .inr h⟩)
        · exact .inr ⟨h1, .inr h⟩
  · have e5 : ¬ (a : Int) < (c.length : Int) := by omega
    have : a = c.length := by omega
    subst this
    simp only [ret_bind, ret_if, ret_get, ret_set, ret_app, ret_mkL, ret_sli, ret_wr, ret_wq, ret_some, vq_l, vq_r, Int.toNat_natCast, if_true, if_false, obs, decide_false, decide_true, Bool.false_eq_true, Bool.not_true, Bool.not_false, not_true_eq_false, not_false_eq_true, true_implies, false_implies, reduceCtorEq, true_and, and_true, false_and, or_false, false_or, implies_true, e5]
    exact hT

theorem fn_p {rows : List (List Int)} {n : Nat} (hl : rows.length ≤ 100000) (hs : ∀ c, c ∈ rows → c.length ≤ 100000 ∧ ∀ x, x ∈ c → 0 ≤ x ∧ x < (n : Int)) :
    Ret (loop (graph_FromNormal_l10 rows) (List.replicate n (List.replicate n false), 0)) (fun T => Tr T n (fun i j => i ≠ j ∧ (RR rows i j ∨ RR rows j i))) := by
  refine ret_loop rows.length (fun k (t : List (List Bool) × Int) => t.2 = k ∧ Tr t.1 n (fun i j => i ≠ j ∧ (RR (rows.take k) i j ∨ RR (rows.take k) j i))) ⟨rfl, Tr.congr (fun i j _ _ => by simp [RR]) (Tr.blank n)⟩ ?_
  rintro k ⟨T, i⟩ hk ⟨rfl, hT⟩
  simp only at hT
  unfold graph_FromNormal_l10
  by_cases hkl : k < rows.length
  · obtain ⟨c, hc⟩ : ∃ c, rows[k]? = some c := ⟨rows[k], by simp [hkl]⟩
    obtain ⟨c1, c2⟩ := hs c (mem_get hc)
    have e1 : getI rows (k : Int) = some c := hc
    have e5 : (k : Int) < (rows.length : Int) := by omega
    have hw : wa .i64 (k : Int) 1 = ((k + 1 : Nat) : Int) := wa1 (by omega)
    simp only [ret_bind, ret_if, ret_get, ret_set, ret_app, ret_mkL, ret_sli, ret_wr, ret_wq, ret_some, vq_l, vq_r, Int.toNat_natCast, if_true, if_false, obs, decide_false, decide_true, Bool.false_eq_true, Bool.not_true, Bool.not_false, not_true_eq_false, not_false_eq_true, true_implies, false_implies, reduceCtorEq, true_and, and_true, false_and, or_false, false_or, implies_true, e1, e5, hw]
    refine ret_call (row_p c1 c2 hT) (fun T' hT' => ⟨hkl, Tr.congr (fun i j _ _ => ?_) hT'⟩)
    rw [RR.succ hc, RR.succ hc]
    constructor
    · rintro (⟨h1, h2⟩ | ⟨h1, h2⟩)
      · exact ⟨h1, h2.imp .inl .inl⟩
      · exact ⟨h1, h2.imp .inr .inr⟩
    · rintro ⟨h1, (h | h) | (h | h)⟩
      · exact .inl ⟨h1, .inl h⟩
      · exact .inr ⟨h1, .inl h⟩
      · exact .inl ⟨h1, .inr h⟩
      · exact .inr ⟨h1, .inr h⟩
  · have e5 : ¬ (k : Int) < (rows.length : Int) := by omega
    simp only [ret_bind, ret_if, ret_get, ret_set, ret_app, ret_mkL, ret_sli, ret_wr, ret_wq, ret_some, vq_l, vq_r, Int.toNat_natCast, if_true, if_false, obs, decide_false, decide_true, Bool.false_eq_true, Bool.not_true, Bool.not_false, not_true_eq_false, not_false_eq_true, true_implies, false_implies, reduceCtorEq, true_and, and_true, false_and, or_false, false_or, implies_true, e5]
    rwa [take_all (by omega)] at hT

theorem rows_ok {l : List (Int × Int × Int)} {m n : Nat} (hl : l.length ≤ 100000) (hr : ∀ e, e ∈ l → Bd m n e) :
    Ret (loop (graph_FromNormal_l1 l) (List.replicate m [], 0)) (fun rows => rows.length = m ∧ ∀ r, r < m → rows[r]? = some (cols l r)) := by
  refine ret_loop l.length (fun k (t : List (List Int) × Int) => t.2 = k ∧ t.1.length = m ∧ ∀ r, r < m → t.1[r]? = some (cols (l.take k) r)) ⟨rfl, by simp, fun r hr => by simp [hr, cols]⟩ ?_
  rintro k ⟨rows, i⟩ hk ⟨rfl, h1, h2⟩
  simp only at h1 h2
  unfold graph_FromNormal_l1
  by_cases hkl : k < l.length
  · obtain ⟨x, hx⟩ : ∃ x, l[k]? = some x := ⟨l[k], by simp [hkl]⟩
    obtain ⟨⟨a1, a2⟩, b1, b2⟩ := hr x (mem_get hx)
    obtain ⟨v, hv⟩ := Int.eq_ofNat_of_zero_le a1
    have hc := h2 v (by omega)
    have hcl := cols_len (l := l.take k) (r := v)
    have hlt : (l.take k).length ≤ l.length := by rw [List.length_take]; omega
    have e1 : getI l (k : Int) = some x := hx
    have e2 : getI rows (v : Int) = some (cols (l.take k) v) := hc
    have e5 : (k : Int) < (l.length : Int) := by omega
    have hw : wa .i64 (k : Int) 1 = ((k + 1 : Nat) : Int) := wa1 (by omega)
    simp only [ret_bind, ret_if, ret_get, ret_set, ret_app, ret_mkL, ret_sli, ret_wr, ret_wq, ret_some, vq_l, vq_r, Int.toNat_natCast, if_true, if_false, obs, decide_false, decide_true, Bool.false_eq_true, Bool.not_true, Bool.not_false, not_true_eq_false, not_false_eq_true, true_implies, false_implies, reduceCtorEq, true_and, and_true, false_and, or_false, false_or, implies_true, e1, e2, e5, hw, hv]
    refine ⟨by rw [List.length_singleton]; omega, by omega, by omega, hkl, by simp [h1], fun r hr' => ?_⟩
    rw [List.getElem?_set, tks hx, cols_snoc, hv]
    by_cases hrv : v = r
    · subst hrv
      rw [if_pos rfl, if_pos (by omega), if_pos rfl]
    · rw [if_neg hrv, if_neg (by omega), h2 r hr']
  · have e5 : ¬ (k : Int) < (l.length : Int) := by omega
    simp only [ret_bind, ret_if, ret_get, ret_set, ret_app, ret_mkL, ret_sli, ret_wr, ret_wq, ret_some, vq_l, vq_r, Int.toNat_natCast, if_true, if_false, obs, decide_false, decide_true, Bool.false_eq_true, Bool.not_true, Bool.not_false, not_true_eq_false, not_false_eq_true, true_implies, false_implies, reduceCtorEq, true_and, and_true, false_and, or_false, false_or, implies_true, e5]
    rw [take_all (by omega)] at h2
    exact ⟨h1, h2⟩


open Classical in
theorem coll_gr {R : Nat → Nat → Prop} {n : Nat} (hs : ∀ i j, R i j → R j i) (hi : ∀ i, ¬ R i i) : Gr ((List.range n).map fun i => coll (fun j => R i j) n) := by
  have hg : ∀ (v : Nat) l, ((List.range n).map fun i => coll (fun j => R i j) n)[v]? = some l → v < n ∧ l = coll (fun j => R v j) n := by
    intro v l h
    have hv : v < n := by have := (List.getElem?_eq_some_iff.1 h).1; simpa using this
    refine ⟨hv, ?_⟩
    simp [hv] at h; exact h.symm
  refine ⟨?_, ?_, ?_⟩
  · intro v l h
    obtain ⟨_, rfl⟩ := hg v l h
    exact coll_asc n
  · intro v l x h hx
    obtain ⟨hv, rfl⟩ := hg v l h
    have := (coll_mem n).1 hx
    simp only [List.length_map, List.length_range]
    refine ⟨by omega, by omega, ?_⟩
    rintro rfl
    exact hi v (by simpa using this.2.2)
  · intro v l x h hx
    obtain ⟨hv, rfl⟩ := hg v l h
    have hm := (coll_mem n).1 hx
    exact ⟨coll (fun j => R x.toNat j) n, by simp [hm.2.1], (coll_mem n).2 ⟨by omega, by simpa using hv, by simpa using hs _ _ hm.2.2⟩⟩

theorem coll_memx {tm : Nat → Prop} (I : DecidablePred tm) {x : Int} (n : Nat) : x ∈ @coll tm I n ↔ 0 ≤ x ∧ x.toNat < n ∧ tm x.toNat := @coll_mem tm I x n
open Classical in
/-- the program's normal graph -/
theorem pnormal_ok {x1 x2 : Int} {x3 x5 x7 : List Int} {l : List (Int × Int × Int)} {m n : Nat} (hm : m ≤ 200) (hn : n ≤ 200) (h1 : x1 = (m : Int)) (h2 : x2 = (n : Int)) (hc : matrix_Check x1 x2 x3 x5 x7 = some 0) (he : matrix_Entries x1 x2 x3 x5 x7 = some l) (hl : l.length ≤ 1000) (hr : ∀ e, e ∈ l → Bd m n e) :
    ∃ adj, graph_FromNormal x1 x2 x3 x5 x7 = some (adj, 0) ∧ Ng adj l n := by
  subst h1 h2
  unfold graph_FromNormal
  obtain ⟨rows, r1, r2, r3⟩ := rows_ok (l := l) (m := m) (n := n) (by omega) hr
  have hs : ∀ c, c ∈ rows → c.length ≤ 100000 ∧ ∀ x, x ∈ c → 0 ≤ x ∧ x < (n : Int) := by
    intro c hc
    obtain ⟨r, hr', hc'⟩ := List.mem_iff_getElem.1 hc
    have := r3 r (by omega)
    rw [List.getElem?_eq_getElem (by omega), hc'] at this
    obtain rfl := Option.some.inj this
    refine ⟨by have := cols_len (l := l) (r := r); omega, fun x hx => ?_⟩
    obtain ⟨e, he, _, rfl⟩ := cols_mem.1 hx
    exact (hr e he).2
  obtain ⟨T, t1, t2⟩ := fn_p (rows := rows) (n := n) (by omega) hs
  rw [bindS hc, if_pos rfl, bindS (mkL_nat ([] : List Int) m (by omega)), bindS he, bindS r1, bindS (newSets_ok (by omega)), bindS t1, bindS (sgraph_ok t2 (by omega))]
  refine ⟨_, rfl, coll_gr (fun i j h => ⟨Ne.symm h.1, h.2.symm⟩) (fun i h => h.1 rfl), by simp, fun v w hv hw ll hll => ?_⟩
  simp only [List.getElem?_map, List.getElem?_range hv, Option.map_some, Option.some.injEq] at hll
  subst hll
  refine Iff.trans (coll_memx _ n) ?_
  simp only [Int.toNat_natCast, Nb]
  constructor
  · rintro ⟨_, _, h3, h4⟩
    exact ⟨h3, (nb_rows hr r2 r3 h3).1 h4⟩
  · rintro ⟨h3, h4⟩
    exact ⟨by omega, hw, h3, (nb_rows hr r2 r3 h3).2 h4⟩

/-- the forest of the columns is that of the normal graph -/
theorem cols_normal {x1 x2 : Int} {x3 x5 x7 : List Int} (hV : Va x1 x2 x3 x5 x7) (h5 : x5.length ≤ 1000) (hp : matrix_Check x1 x2 x3 x5 x7 = some 0) :
    ∃ p adj, etree_ColParent x1 x2 x3 x5 x7 = some (p, 0) ∧ graph_FromNormal x1 x2 x3 x5 x7 = some (adj, 0) ∧ etree_Parent adj = some (p, 0) ∧ (p.length : Int) = x2 := by
  unfold etree_ColParent
  rw [bindS hp]
  obtain ⟨l, l1, l3, l4, l5⟩ := ents hV (by omega) hp
  obtain ⟨m, rfl⟩ := Int.eq_ofNat_of_zero_le hV.sz.1.1
  obtain ⟨n, rfl⟩ := Int.eq_ofNat_of_zero_le hV.sz.2.1.1
  have hm : m ≤ 200 := by have := hV.sz.1.2; omega
  have hn : n ≤ 200 := by have := hV.sz.2.1.2; omega
  obtain ⟨adj, a1, hN⟩ := pnormal_ok hm hn rfl rfl hp l1 (by omega) l4
  have a2 := hN.gr
  have a3 := hN.len
  obtain ⟨o, c1, c2, c3, c4, c5⟩ := col_loop (by omega) hn l4 l5 hN
  obtain ⟨par, q1, hP⟩ := parent_full a2 (by omega)
  subst a3
  have hu : o.1 = par := par_uniq a2 c2 hP.len c3 hP.qp c4 hP.ed c5 hP.inc
  rw [if_pos rfl, bindS (newForest_ok (by omega)), bindS (mkL_nat 0 m (by omega)), bindS (last_ok (by omega)), bindS l1, bindS c1]
  exact ⟨par, adj, by rw [← hu], a1, q1, by have := hP.len; omega⟩
end Pw
