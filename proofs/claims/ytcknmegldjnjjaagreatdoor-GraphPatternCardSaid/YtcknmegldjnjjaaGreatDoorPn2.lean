/- The program's entries and normal graph (from PuH, PtH, PtD), where the document's are not there. -/
import Derived.Test.YtcknmegldjnjjaaGreatDoorPn1
import Derived.KernelRfl
import Derived.Test.YtcknmegldjnjjaaGreatDoorM8
set_option linter.unusedSimpArgs false
set_option linter.unusedVariables false
namespace Pw
open Pu Pl Sx Go M Vc

def coll (tm : Nat → Prop) [DecidablePred tm] : Nat → List Int
  | 0 => []
  | m + 1 => coll tm m ++ (if tm m then [(m : Int)] else [])
theorem coll_mem {tm : Nat → Prop} [DecidablePred tm] {x : Int} : ∀ m, x ∈ coll tm m ↔ 0 ≤ x ∧ x.toNat < m ∧ tm x.toNat := by
  intro m
  induction m with
  | zero => simp [coll]
  | succ m ih =>
    rw [coll, List.mem_append, ih]
    constructor
    · rintro (h | h)
      · exact ⟨h.1, by omega, h.2.2⟩
      · split at h
        · rename_i hc
          simp only [List.mem_singleton] at h; subst h
          exact ⟨by omega, by omega, by simpa using hc⟩
        · simp at h
    · rintro ⟨h1, h2, h3⟩
      by_cases hx : x.toNat = m
      · right
        rw [hx] at h3
        rw [if_pos h3]
        simp; omega
      · exact .inl ⟨h1, by omega, h3⟩
theorem coll_asc {tm : Nat → Prop} [DecidablePred tm] : ∀ m, (coll tm m).Pairwise (· < ·) := by
  intro m
  induction m with
  | zero => exact .nil
  | succ m ih =>
    rw [coll, List.pairwise_append]
    refine ⟨ih, ?_, ?_⟩
    · split <;> simp
    · intro x hx y hy
      have := (coll_mem m).1 hx
      split at hy
      · simp at hy; omega
      · simp at hy
theorem coll_len {tm : Nat → Prop} [DecidablePred tm] : ∀ m, (coll tm m).length ≤ m := by
  intro m
  induction m with
  | zero => simp [coll]
  | succ m ih => rw [coll, List.length_append]; split <;> simp <;> omega

theorem newSets_ok {n : Nat} (hn : n ≤ 1000) : graph_NewSets (n : Int) = some (List.replicate n (List.replicate n false)) := by
  refine Ret.eq ?_
  unfold graph_NewSets
  simp only [ret_bind, ret_mkL, ret_some, Int.toNat_natCast]
  refine ⟨by omega, by omega, ?_⟩
  refine ret_loop n (fun k (t : List (List Bool) × Int) => t.2 = k ∧ t.1.length = n ∧ ∀ u, u < k → t.1[u]? = some (List.replicate n false)) ⟨rfl, by simp, fun u h => by omega⟩ ?_
  rintro k ⟨t, i⟩ hk ⟨rfl, h1, h2⟩
  simp only at h1 h2
  unfold graph_NewSets_l1
  have hlen : (List.replicate n ([] : List Bool)).length = n := by simp
  by_cases hkn : k < n
  · have hw : wa .i64 (k : Int) 1 = ((k + 1 : Nat) : Int) := wa1 (by omega)
    have e5 : (k : Int) < (n : Int) := by omega
    simp only [ret_bind, ret_if, ret_get, ret_set, ret_app, ret_mkL, ret_sli, ret_wr, ret_wq, ret_some, vq_l, vq_r, Int.toNat_natCast, if_true, if_false, obs, decide_false, decide_true, Bool.false_eq_true, Bool.not_true, Bool.not_false, not_true_eq_false, not_false_eq_true, true_implies, false_implies, reduceCtorEq, hlen, e5, hw]
    refine ⟨by omega, by omega, by omega, by omega, hkn, trivial, by simp [h1], fun u hu => ?_⟩
    rw [List.getElem?_set]
    by_cases hku : k = u
    · rw [if_pos hku, if_pos (by omega)]
    · rw [if_neg hku]; exact h2 u (by omega)
  · have e5 : ¬ (k : Int) < (n : Int) := by omega
    simp only [ret_bind, ret_if, ret_get, ret_set, ret_app, ret_mkL, ret_sli, ret_wr, ret_wq, ret_some, vq_l, vq_r, Int.toNat_natCast, if_true, if_false, obs, decide_false, decide_true, Bool.false_eq_true, Bool.not_true, Bool.not_false, not_true_eq_false, not_false_eq_true, true_implies, false_implies, reduceCtorEq, hlen, e5]
    apply List.ext_getElem?
    intro u
    by_cases hu : u < n
    · rw [h2 u (by omega)]; simp [hu]
    · rw [List.getElem?_eq_none (by omega), List.getElem?_eq_none (by simp; omega)]

theorem join_ok {T : List (List Bool)} {n : Nat} {R : Nat → Nat → Prop} (hT : Tr T n R) {v w : Nat} (hv : v < n) (hw : w < n) : ∃ T', graph_Sets_Join T (v : Int) (w : Int) = some T' ∧ Tr T' n (fun a c => (v ≠ w ∧ ((a = v ∧ c = w) ∨ (a = w ∧ c = v))) ∨ R a c) := by
  unfold graph_Sets_Join graph_Sets_Join_j1
  by_cases hvw : v = w
  · subst hvw
    exact ⟨T, by rw [if_pos rfl], Tr.congr (fun a c _ _ => by simp) hT⟩
  · rw [if_neg (by omega)]
    obtain ⟨r, g1, g2, g3, _⟩ := hT.row hv
    obtain ⟨r', g1', g2', g3', _⟩ := hT.row hw
    have hT2 := hT.on (j := w) hv g2
    obtain ⟨r2, k1, k2, k3, _⟩ := hT2.row hw
    have hTl := hT.1
    rw [bindS g1, bindS g1', bindS (setI_lt (by omega)), bindS (setI_lt (by omega)), bindS k1, bindS (setI_lt (by omega)), bindS (setI_lt (by simp; omega))]
    exact ⟨_, rfl, Tr.congr (fun a c _ _ => by
      constructor
      · rintro (h | h | h)
        · exact .inl ⟨hvw, .inr h⟩
        · exact .inl ⟨hvw, .inl h⟩
        · exact .inr h
      · rintro (⟨_, h | h⟩ | h)
        · exact .inr (.inl h)
        · exact .inl h
        · exact .inr (.inr h)) (hT2.on (j := v) hw k2)⟩

open Classical in
theorem list_ok {T : List (List Bool)} {n : Nat} {R : Nat → Nat → Prop} (hT : Tr T n R) (hn : n ≤ 1000) {v : Nat} (hv : v < n) : graph_Sets_List T (v : Int) = some (coll (fun w => R v w) n) := by
  obtain ⟨r, g1, g2, g3, g4⟩ := hT.row hv
  refine Ret.eq ?_
  unfold graph_Sets_List
  rw [bindS g1]
  simp only [ret_bind, ret_some]
  refine ret_loop n (fun k (t : List Int × Int) => t.2 = k ∧ t.1 = coll (fun w => R v w) k) ⟨rfl, rfl⟩ ?_
  rintro k ⟨t, i⟩ hk ⟨rfl, rfl⟩
  unfold graph_Sets_List_l3 graph_Sets_List_j4
  have hcl := coll_len (tm := fun w => R v w) k
  by_cases hkn : k < n
  · obtain ⟨b, e1, e2⟩ := g4 k hkn
    have hw : wa .i64 (k : Int) 1 = ((k + 1 : Nat) : Int) := wa1 (by omega)
    have e5 : (k : Int) < (r.length : Int) := by omega
    simp only [ret_bind, ret_if, ret_get, ret_set, ret_app, ret_mkL, ret_sli, ret_wr, ret_wq, ret_some, vq_l, vq_r, Int.toNat_natCast, if_true, if_false, obs, decide_false, decide_true, Bool.false_eq_true, Bool.not_true, Bool.not_false, not_true_eq_false, not_false_eq_true, true_implies, false_implies, reduceCtorEq, e1, e5, hw]
    refine ⟨fun h => ⟨by simp; omega, hkn, trivial, ?_⟩, fun h => ⟨hkn, trivial, ?_⟩⟩
    · rw [coll, if_pos (e2.1 h)]
    · rw [coll, if_neg (fun hh => h (e2.2 hh)), List.append_nil]
  · have e5 : ¬ (k : Int) < (r.length : Int) := by omega
    have : k = n := by omega
    subst this
    simp only [ret_bind, ret_if, ret_get, ret_set, ret_app, ret_mkL, ret_sli, ret_wr, ret_wq, ret_some, vq_l, vq_r, Int.toNat_natCast, if_true, if_false, obs, decide_false, decide_true, Bool.false_eq_true, Bool.not_true, Bool.not_false, not_true_eq_false, not_false_eq_true, true_implies, false_implies, reduceCtorEq, e5]

open Classical in
theorem sgraph_ok {T : List (List Bool)} {n : Nat} {R : Nat → Nat → Prop} (hT : Tr T n R) (hn : n ≤ 1000) : graph_Sets_Graph T = some ((List.range n).map fun v => coll (fun w => R v w) n) := by
  refine Ret.eq ?_
  have hTl := hT.1
  unfold graph_Sets_Graph
  simp only [ret_bind, ret_mkL, ret_some, Int.toNat_natCast]
  refine ⟨by omega, by omega, ?_⟩
  refine ret_loop n (fun k (t : List (List Int) × Int) => t.2 = k ∧ t.1.length = n ∧ ∀ u, u < k → t.1[u]? = some (coll (fun w => R u w) n)) ⟨rfl, by simp [hTl], fun u h => by omega⟩ ?_
  rintro k ⟨t, i⟩ hk ⟨rfl, h1, h2⟩
  simp only at h1 h2
  unfold graph_Sets_Graph_l1
  by_cases hkn : k < n
  · have hw : wa .i64 (k : Int) 1 = ((k + 1 : Nat) : Int) := wa1 (by omega)
    have e5 : (k : Int) < (T.length : Int) := by omega
    simp only [ret_bind, ret_if, ret_get, ret_set, ret_app, ret_mkL, ret_sli, ret_wr, ret_wq, ret_some, vq_l, vq_r, Int.toNat_natCast, if_true, if_false, obs, decide_false, decide_true, Bool.false_eq_true, Bool.not_true, Bool.not_false, not_true_eq_false, not_false_eq_true, true_implies, false_implies, reduceCtorEq, e5, hw, list_ok hT hn hkn]
    refine ⟨by omega, by omega, hkn, trivial, by simp [h1], fun u hu => ?_⟩
    rw [List.getElem?_set]
    by_cases hku : k = u
    · subst hku; rw [if_pos rfl, if_pos (by omega)]
    · rw [if_neg hku]; exact h2 u (by omega)
  · have e5 : ¬ (k : Int) < (T.length : Int) := by omega
    simp only [ret_bind, ret_if, ret_get, ret_set, ret_app, ret_mkL, ret_sli, ret_wr, ret_wq, ret_some, vq_l, vq_r, Int.toNat_natCast, if_true, if_false, obs, decide_false, decide_true, Bool.false_eq_true, Bool.not_true, Bool.not_false, not_true_eq_false, not_false_eq_true, true_implies, false_implies, reduceCtorEq, e5]
    apply List.ext_getElem?
    intro u
    by_cases hu : u < n
    · rw [h2 u (by omega)]; simp [hu]
    · rw [List.getElem?_eq_none (by omega), List.getElem?_eq_none (by simp; omega)]

theorem entries_ok {x1 x2 : Int} {x3 x5 x7 : List Int} (h : Va x1 x2 x3 x5 x7) (h5 : x5.length ≤ 100000) :
    Ret (loop (matrix_entries_l3 x2 x3 x5 x7) ([], 0)) (fun l => l.length ≤ x5.length ∧ (∀ e, e ∈ l → Bd x1 x2 e) ∧ l.Pairwise LT) := by
  obtain ⟨hs1, hs2, hs3⟩ := h.sz
  obtain ⟨n, rfl⟩ := Int.eq_ofNat_of_zero_le hs2.1
  have hl : x3.length = n + 1 := by have := h.hd.ls; omega
  have hsn : x3[n]? = some (x5.length : Int) := by simpa using h.hd.sn
  have hv := h.hd.lv
  refine ret_loop n (fun k (t : List (Int × Int × Int) × Int) => t.2 = k ∧ x3[k]? = some (t.1.length : Int) ∧ (∀ e, e ∈ t.1 → Bd x1 n e ∧ e.2.1 < (k : Int)) ∧ t.1.Pairwise LT) ⟨rfl, by simpa using h.hd.s0, (fun e he => by simp at he), .nil⟩ ?_
  rintro k ⟨l, i⟩ hk ⟨rfl, hkl, hI, hP⟩
  simp only at hkl hI hP
  unfold matrix_entries_l3
  by_cases hkn : k < n
  · have hwk : wa .i64 (k : Int) 1 = ((k + 1 : Nat) : Int) := wa1 (by omega)
    obtain ⟨b, hb⟩ : ∃ b, x3[k + 1]? = some b := ⟨x3[k + 1]'(by omega), by simp [show k + 1 < x3.length by omega]⟩
    have hab := h.mo k _ b hkl hb
    have hbn := mo_le h.mo (show k + 1 ≤ n by omega) hb hsn
    obtain ⟨b, rfl⟩ := Int.eq_ofNat_of_zero_le (show 0 ≤ b by omega)
    have e1 : getI x3 (k : Int) = some (l.length : Int) := hkl
    have e2 : getI x3 ((k + 1 : Nat) : Int) = some (b : Int) := hb
    have e5 : (k : Int) < (n : Int) := by omega
    simp only [ret_bind, ret_if, e1, e5, ret_some, vq_l, vq_r, hwk, true_implies, not_true_eq_false, false_implies, and_true]
    refine ret_call (P := fun l' => l'.length = b ∧ (∀ e, e ∈ l' → Bd x1 n e ∧ e.2.1 ≤ (k : Int)) ∧ l'.Pairwise LT) ?_ (fun l' hl' => ⟨hkn, trivial, by rw [hb, hl'.1], fun e he => ⟨(hl'.2.1 e he).1, by have := (hl'.2.1 e he).2; omega⟩, hl'.2.2⟩)
    refine ret_loop (b - l.length) (fun m (t : List (Int × Int × Int) × Int) => t.2 = ((l.length + m : Nat) : Int) ∧ t.1.length = l.length + m ∧ (∀ e, e ∈ t.1 → Bd x1 n e ∧ (e.2.1 < (k : Int) ∨ (e.2.1 = (k : Int) ∧ 0 < m ∧ ∀ z, x5[l.length + m - 1]? = some z → e.1 ≤ z))) ∧ t.1.Pairwise LT) ⟨rfl, rfl, (fun e he => ⟨(hI e he).1, .inl (hI e he).2⟩), hP⟩ ?_
    rintro m ⟨l', i⟩ hm ⟨h0, h1, h2, hP⟩
    simp only at h0 h1 h2 hP
    subst h0
    unfold matrix_entries_l4
    by_cases hmb : l.length + m < b
    · obtain ⟨x, hx⟩ : ∃ x, x5[l.length + m]? = some x := ⟨x5[l.length + m]'(by omega), by simp [show l.length + m < x5.length by omega]⟩
      obtain ⟨y, hy⟩ : ∃ y, x7[l.length + m]? = some y := ⟨x7[l.length + m]'(by omega), by simp [show l.length + m < x7.length by omega]⟩
      have e3 : getI x5 ((l.length + m : Nat) : Int) = some x := hx
      have e4 : getI x7 ((l.length + m : Nat) : Int) = some y := hy
      have e6 : ((l.length + m : Nat) : Int) < (b : Int) := by omega
      have hw2 : wa .i64 ((l.length + m : Nat) : Int) 1 = ((l.length + (m + 1) : Nat) : Int) := by rw [wa1 (by omega)]; congr 1
      have hc := h.cl k _ _ hkl hb (l.length + m) x (by omega) (by omega) hx
      simp only [ret_bind, ret_if, ret_get, ret_set, ret_app, ret_mkL, ret_sli, ret_wr, ret_wq, ret_some, vq_l, vq_r, Int.toNat_natCast, if_true, if_false, obs, decide_false, decide_true, Bool.false_eq_true, Bool.not_true, Bool.not_false, not_true_eq_false, not_false_eq_true, true_implies, false_implies, reduceCtorEq, true_and, and_true, false_and, or_false, false_or, implies_true, hwk, e2, e3, e4, e6, hw2]
      refine ⟨by rw [h1, List.length_singleton]; omega, by omega, by rw [List.length_append, h1, List.length_singleton]; omega, fun e he => ?_, lt_snoc hP (fun e he => ?_)⟩
      · rw [List.mem_append, List.mem_singleton] at he
        rcases he with he | rfl
        · refine ⟨(h2 e he).1, ?_⟩
          rcases (h2 e he).2 with h3 | ⟨h3, h4, h6⟩
          · exact .inl h3
          · refine .inr ⟨h3, by omega, fun z hz => ?_⟩
            rw [show l.length + (m + 1) - 1 = l.length + m by omega, hx] at hz
            obtain rfl := Option.some.inj hz
            obtain ⟨u, hu⟩ : ∃ u, x5[l.length + m - 1]? = some u := ⟨x5[l.length + m - 1]'(by omega), by simp [show l.length + m - 1 < x5.length by omega]⟩
            have := h6 u hu
            have := hc.2.2 (by omega) u hu
            omega
        · refine ⟨⟨⟨hc.1, hc.2.1⟩, by simp only; omega, by simp only; omega⟩, .inr ⟨rfl, by omega, fun z hz => ?_⟩⟩
          rw [show l.length + (m + 1) - 1 = l.length + m by omega, hx] at hz
          obtain rfl := Option.some.inj hz
          exact Int.le_refl _
      · rcases (h2 e he).2 with h3 | ⟨h3, h4, h6⟩
        · exact .inl h3
        · refine .inr ⟨h3, ?_⟩
          obtain ⟨u, hu⟩ : ∃ u, x5[l.length + m - 1]? = some u := ⟨x5[l.length + m - 1]'(by omega), by simp [show l.length + m - 1 < x5.length by omega]⟩
          have := h6 u hu
          have := hc.2.2 (by omega) u hu
          simp only; omega
    · have e6 : ¬ ((l.length + m : Nat) : Int) < (b : Int) := by omega
      simp only [ret_bind, ret_if, ret_get, ret_set, ret_app, ret_mkL, ret_sli, ret_wr, ret_wq, ret_some, vq_l, vq_r, Int.toNat_natCast, if_true, if_false, obs, decide_false, decide_true, Bool.false_eq_true, Bool.not_true, Bool.not_false, not_true_eq_false, not_false_eq_true, true_implies, false_implies, reduceCtorEq, true_and, and_true, false_and, or_false, false_or, implies_true, hwk, e2, e6]
      exact ⟨by omega, (fun e he => ⟨(h2 e he).1, by rcases (h2 e he).2 with h3 | ⟨h3, _⟩ <;> omega⟩), hP⟩
  · have e5 : ¬ (k : Int) < (n : Int) := by omega
    simp only [ret_bind, ret_if, ret_get, ret_set, ret_app, ret_mkL, ret_sli, ret_wr, ret_wq, ret_some, vq_l, vq_r, Int.toNat_natCast, if_true, if_false, obs, decide_false, decide_true, Bool.false_eq_true, Bool.not_true, Bool.not_false, not_true_eq_false, not_false_eq_true, true_implies, false_implies, reduceCtorEq, true_and, and_true, false_and, or_false, false_or, implies_true, e5]
    have : k = n := by omega
    subst this
    rw [hsn] at hkl
    have := Option.some.inj hkl
    exact ⟨by omega, (fun e he => (hI e he).1), hP⟩

theorem ents {x1 x2 : Int} {x3 x5 x7 : List Int} (h : Va x1 x2 x3 x5 x7) (h5 : x5.length ≤ 100000) (hp : matrix_Check x1 x2 x3 x5 x7 = some 0) :
    ∃ l, matrix_Entries x1 x2 x3 x5 x7 = some l ∧ l.length ≤ x5.length ∧ (∀ e, e ∈ l → Bd x1 x2 e) ∧ l.Pairwise LT := by
  obtain ⟨l, h1, h2, h3⟩ := entries_ok h h5
  refine ⟨l, ?_, h2, h3⟩
  unfold matrix_Entries matrix_entries
  rw [bindS hp, if_pos rfl, h1]; rfl

theorem row_p {c : List Int} {n : Nat} (hc : c.length ≤ 100000) (hr : ∀ x, x ∈ c → 0 ≤ x ∧ x < (n : Int)) {T : List (List Bool)} {B : Nat → Nat → Prop} (hT : Tr T n B) :
    Ret (loop (graph_FromNormal_l13 c) (T, 0)) (fun T' => Tr T' n (fun i j => B i j ∨ (i ≠ j ∧ (PR c c.length i j ∨ PR c c.length j i)))) := by
  refine ret_loop c.length (fun a (t : List (List Bool) × Int) => t.2 = a ∧ Tr t.1 n (fun i j => B i j ∨ (i ≠ j ∧ (PR c a i j ∨ PR c a j i)))) ⟨rfl, Tr.congr (fun i j _ _ => by simp [PR]) hT⟩ ?_
  rintro a ⟨T, i⟩ ha ⟨rfl, hT⟩
  simp only at hT
  unfold graph_FromNormal_l13
  by_cases hac : a < c.length
  · obtain ⟨x, hx⟩ : ∃ x, c[a]? = some x := ⟨c[a], by simp [hac]⟩
    have hxr := hr x (mem_get hx)
    obtain ⟨v, rfl⟩ := Int.eq_ofNat_of_zero_le hxr.1
    have e1 : getI c (a : Int) = some (v : Int) := hx
    have e5 : (a : Int) < (c.length : Int) := by omega
    have hw : wa .i64 (a : Int) 1 = ((a + 1 : Nat) : Int) := wa1 (by omega)
    have hz : (0 : Int).toNat = 0 := rfl
    simp only [ret_bind, ret_if, ret_get, ret_set, ret_app, ret_mkL, ret_sli, ret_wr, ret_wq, ret_some, vq_l, vq_r, Int.toNat_natCast, if_true, if_false, obs, decide_false, decide_true, Bool.false_eq_true, Bool.not_true, Bool.not_false, not_true_eq_false, not_false_eq_true, true_implies, false_implies, reduceCtorEq, true_and, and_true, false_and, or_false, false_or, implies_true, e1, e5, hw, hz, List.drop_zero]
    refine ⟨by omega, by omega, by omega, ?_⟩
    refine ret_call (P := fun T' => Tr T' n (fun i j => (B i j ∨ (i ≠ j ∧ (PR c a i j ∨ PR c a j i))) ∨ (i ≠ j ∧ (PB c a a i j ∨ PB c a a j i)))) ?_ ?_
    · refine ret_loop a (fun q (t : List (List Bool) × Int) => t.2 = q ∧ Tr t.1 n (fun i j => (B i j ∨ (i ≠ j ∧ (PR c a i j ∨ PR c a j i))) ∨ (i ≠ j ∧ (PB c a q i j ∨ PB c a q j i)))) ⟨rfl, Tr.congr (fun i j _ _ => by simp [PB]) hT⟩ ?_
      rintro q ⟨T, i⟩ hq ⟨rfl, hT⟩
      simp only at hT
      unfold graph_FromNormal_l14
      have hll : (c.take a).length = a := by simp; omega
      by_cases hqa : q < a
      · obtain ⟨y, hy⟩ : ∃ y, c[q]? = some y := ⟨c[q]'(by omega), by simp [show q < c.length by omega]⟩
        have hyr := hr y (mem_get hy)
        obtain ⟨w, rfl⟩ := Int.eq_ofNat_of_zero_le hyr.1
        obtain ⟨T', j1, j2⟩ := join_ok hT (show w < n by omega) (show v < n by omega)
        have e2 : getI (c.take a) (q : Int) = some (w : Int) := by rw [getI_cast, List.getElem?_take, if_pos hqa, hy]
        have e6 : (q : Int) < ((c.take a).length : Int) := by omega
        have hw2 : wa .i64 (q : Int) 1 = ((q + 1 : Nat) : Int) := wa1 (by omega)
        simp only [ret_bind, ret_if, ret_get, ret_set, ret_app, ret_mkL, ret_sli, ret_wr, ret_wq, ret_some, vq_l, vq_r, Int.toNat_natCast, if_true, if_false, obs, decide_false, decide_true, Bool.false_eq_true, Bool.not_true, Bool.not_false, not_true_eq_false, not_false_eq_true, true_implies, false_implies, reduceCtorEq, true_and, and_true, false_and, or_false, false_or, implies_true, e2, e6, hw2, j1]
        refine ⟨hqa, Tr.congr (fun i j _ _ => ?_) j2⟩
        rw [PB.succ hx hy, PB.succ hx hy]
        constructor
        · rintro (⟨h1, ⟨rfl, rfl⟩ | ⟨rfl, rfl⟩⟩ | h | ⟨h1, h2⟩)
          · exact .inr ⟨h1, .inr (.inr ⟨rfl, rfl⟩)⟩
          · exact .inr ⟨fun h => h1 h.symm, .inl (.inr ⟨rfl, rfl⟩)⟩
          · exact .inl h
          · exact .inr ⟨h1, h2.imp .inl .inl⟩
        · rintro (h | ⟨h1, (h | ⟨rfl, rfl⟩) | (h | ⟨rfl, rfl⟩)⟩)
          · exact .inr (.inl h)
          · exact .inr (.inr ⟨h1, .inl h⟩)
          · exact .inl ⟨fun h => h1 h.symm, .inr ⟨rfl, rfl⟩⟩
          · exact .inr (.inr ⟨h1, .inr h⟩)
          · exact .inl ⟨h1, .inl ⟨rfl, rfl⟩⟩
      · have e6 : ¬ (q : Int) < ((c.take a).length : Int) := by omega
        have : q = a := by omega
        subst this
        simp only [ret_bind, ret_if, ret_get, ret_set, ret_app, ret_mkL, ret_sli, ret_wr, ret_wq, ret_some, vq_l, vq_r, Int.toNat_natCast, if_true, if_false, obs, decide_false, decide_true, Bool.false_eq_true, Bool.not_true, Bool.not_false, not_true_eq_false, not_false_eq_true, true_implies, false_implies, reduceCtorEq, true_and, and_true, false_and, or_false, false_or, implies_true, e6]
        exact hT
    · intro T' hT'
      refine ⟨hac, Tr.congr (fun i j _ _ => ?_) hT'⟩
      rw [PR.succ, PR.succ]
      constructor
      · rintro ((h | ⟨h1, h2⟩) | ⟨h1, h2⟩)
        · exact .inl h
        · exact .inr ⟨h1, h2.imp .inl .inl⟩
        · exact .inr ⟨h1, h2.imp .inr .inr⟩
      · rintro (h | ⟨h1, (h | h) | (h | h)⟩)
        · exact .inl (.inl h)
        · exact .inl (.inr ⟨h1, .inl h⟩)
        · exact .inr ⟨h1, .inl h⟩
        · exact .inl (.inr ⟨h1, .inr h⟩)
        · exact .inr ⟨h1, .inr h⟩
  · have e5 : ¬ (a : Int) < (c.length : Int) := by omega
    have : a = c.length := by omega
    subst this
    simp only [ret_bind, ret_if, ret_get, ret_set, ret_app, ret_mkL, ret_sli, ret_wr, ret_wq, ret_some, vq_l, vq_r, Int.toNat_natCast, if_true, if_false, obs, decide_false, decide_true, Bool.false_eq_true, Bool.not_true, Bool.not_false, not_true_eq_false, not_false_eq_true, true_implies, false_implies, reduceCtorEq, true_and, and_true, false_and, or_false, false_or, implies_true, e5]
    exact hT

theorem fn_p {rows : List (List Int)} {n : Nat} (hl : rows.length ≤ 100000) (hs : ∀ c, c ∈ rows → c.length ≤ 100000 ∧ ∀ x, x ∈ c → 0 ≤ x ∧ x < (n : Int)) :
    Ret (loop (graph_FromNormal_l10 rows) (List.replicate n (List.replicate n false), 0)) (fun T => Tr T n (fun i j => i ≠ j ∧ (RR rows i j ∨ RR rows j i))) := by
  refine ret_loop rows.length (fun k (t : List (List Bool) × Int) => t.2 = k ∧ Tr t.1 n (fun i j => i ≠ j ∧ (RR (rows.take k) i j ∨ RR (rows.take k) j i))) ⟨rfl, Tr.congr (fun i j _ _ => by simp [RR]) (Tr.blank n)⟩ ?_
  rintro k ⟨T, i⟩ hk ⟨rfl, hT⟩
  simp only at hT
  unfold graph_FromNormal_l10
  by_cases hkl : k < rows.length
  · obtain ⟨c, hc⟩ : ∃ c, rows[k]? = some c := ⟨rows[k], by simp [hkl]⟩
    obtain ⟨c1, c2⟩ := hs c (mem_get hc)
    have e1 : getI rows (k : Int) = some c := hc
    have e5 : (k : Int) < (rows.length : Int) := by omega
    have hw : wa .i64 (k : Int) 1 = ((k + 1 : Nat) : Int) := wa1 (by omega)
    simp only [ret_bind, ret_if, ret_get, ret_set, ret_app, ret_mkL, ret_sli, ret_wr, ret_wq, ret_some, vq_l, vq_r, Int.toNat_natCast, if_true, if_false, obs, decide_false, decide_true, Bool.false_eq_true, Bool.not_true, Bool.not_false, not_true_eq_false, not_false_eq_true, true_implies, false_implies, reduceCtorEq, true_and, and_true, false_and, or_false, false_or, implies_true, e1, e5, hw]
    refine ret_call (row_p c1 c2 hT) (fun T' hT' => ⟨hkl, Tr.congr (fun i j _ _ => ?_) hT'⟩)
    rw [RR.succ hc, RR.succ hc]
    constructor
    · rintro (⟨h1, h2⟩ | ⟨h1, h2⟩)
      · exact ⟨h1, h2.imp .inl .inl⟩
      · exact ⟨h1, h2.imp .inr .inr⟩
    · rintro ⟨h1, (h | h) | (h | h)⟩
      · exact .inl ⟨h1, .inl h⟩
      · exact .inr ⟨h1, .inl h⟩
      · exact .inl ⟨h1, .inr h⟩
      · exact .inr ⟨h1, .inr h⟩
  · have e5 : ¬ (k : Int) < (rows.length : Int) := by omega
    simp only [ret_bind, ret_if, ret_get, ret_set, ret_app, ret_mkL, ret_sli, ret_wr, ret_wq, ret_some, vq_l, vq_r, Int.toNat_natCast, if_true, if_false, obs, decide_false, decide_true, Bool.false_eq_true, Bool.not_true, Bool.not_false, not_true_eq_false, not_false_eq_true, true_implies, false_implies, reduceCtorEq, true_and, and_true, false_and, or_false, false_or, implies_true, e5]
    rwa [take_all (by omega)] at hT

theorem rows_ok {l : List (Int × Int × Int)} {m n : Nat} (hl : l.length ≤ 100000) (hr : ∀ e, e ∈ l → Bd m n e) :
    Ret (loop (graph_FromNormal_l1 l) (List.replicate m [], 0)) (fun rows => rows.length = m ∧ ∀ r, r < m → rows[r]? = some (cols l r)) := by
  refine ret_loop l.length (fun k (t : List (List Int) × Int) => t.2 = k ∧ t.1.length = m ∧ ∀ r, r < m → t.1[r]? = some (cols (l.take k) r)) ⟨rfl, by simp, fun r hr => by simp [hr, cols]⟩ ?_
  rintro k ⟨rows, i⟩ hk ⟨rfl, h1, h2⟩
  simp only at h1 h2
  unfold graph_FromNormal_l1
  by_cases hkl : k < l.length
  · obtain ⟨x, hx⟩ : ∃ x, l[k]? = some x := ⟨l[k], by simp [hkl]⟩
    obtain ⟨⟨a1, a2⟩, b1, b2⟩ := hr x (mem_get hx)
    obtain ⟨v, hv⟩ := Int.eq_ofNat_of_zero_le a1
    have hc := h2 v (by omega)
    have hcl := cols_len (l := l.take k) (r := v)
    have hlt : (l.take k).length ≤ l.length := by rw [List.length_take]; omega
    have e1 : getI l (k : Int) = some x := hx
    have e2 : getI rows (v : Int) = some (cols (l.take k) v) := hc
    have e5 : (k : Int) < (l.length : Int) := by omega
    have hw : wa .i64 (k : Int) 1 = ((k + 1 : Nat) : Int) := wa1 (by omega)
    simp only [ret_bind, ret_if, ret_get, ret_set, ret_app, ret_mkL, ret_sli, ret_wr, ret_wq, ret_some, vq_l, vq_r, Int.toNat_natCast, if_true, if_false, obs, decide_false, decide_true, Bool.false_eq_true, Bool.not_true, Bool.not_false, not_true_eq_false, not_false_eq_true, true_implies, false_implies, reduceCtorEq, true_and, and_true, false_and, or_false, false_or, implies_true, e1, e2, e5, hw, hv]
    refine ⟨by rw [List.length_singleton]; omega, by omega, by omega, hkl, by simp [h1], fun r hr' => ?_⟩
    rw [List.getElem?_set, tks hx, cols_snoc, hv]
    by_cases hrv : v = r
    · subst hrv
      rw [if_pos rfl, if_pos (by omega), if_pos rfl]
    · rw [if_neg hrv, if_neg (by omega), h2 r hr']
  · have e5 : ¬ (k : Int) < (l.length : Int) := by omega
    simp only [ret_bind, ret_if, ret_get, ret_set, ret_app, ret_mkL, ret_sli, ret_wr, ret_wq, ret_some, vq_l, vq_r, Int.toNat_natCast, if_true, if_false, obs, decide_false, decide_true, Bool.false_eq_true, Bool.not_true, Bool.not_false, not_true_eq_false, not_false_eq_true, true_implies, false_implies, reduceCtorEq, true_and, and_true, false_and, or_false, false_or, implies_true, e5]
    rw [take_all (by omega)] at h2
    exact ⟨h1, h2⟩


open Classical in
theorem coll_gr {R : Nat → Nat → Prop} {n : Nat} (hs : ∀ i j, R i j → R j i) (hi : ∀ i, ¬ R i i) : Gr ((List.range n).map fun i => coll (fun j => R i j) n) := by
  have hg : ∀ (v : Nat) l, ((List.range n).map fun i => coll (fun j => R i j) n)[v]? = some l → v < n ∧ l = coll (fun j => R v j) n := by
    intro v l h
    have hv : v < n := by have := (List.getElem?_eq_some_iff.1 h).1; simpa using this
    refine ⟨hv, ?_⟩
    simp [hv] at h; exact h.symm
  refine ⟨?_, ?_, ?_⟩
  · intro v l h
    obtain ⟨_, rfl⟩ := hg v l h
    exact coll_asc n
  · intro v l x h hx
    obtain ⟨hv, rfl⟩ := hg v l h
    have := (coll_mem n).1 hx
    simp only [List.length_map, List.length_range]
    refine ⟨by omega, by omega, ?_⟩
    rintro rfl
    exact hi v (by simpa using this.2.2)
  · intro v l x h hx
    obtain ⟨hv, rfl⟩ := hg v l h
    have hm := (coll_mem n).1 hx
    exact ⟨coll (fun j => R x.toNat j) n, by simp [hm.2.1], (coll_mem n).2 ⟨by omega, by simpa using hv, by simpa using hs _ _ hm.2.2⟩⟩

theorem coll_memx {tm : Nat → Prop} (I : DecidablePred tm) {x : Int} (n : Nat) : x ∈ @coll tm I n ↔ 0 ≤ x ∧ x.toNat < n ∧ tm x.toNat := @coll_mem tm I x n
open Classical in
/-- the program's normal graph -/
theorem pnormal_ok {x1 x2 : Int} {x3 x5 x7 : List Int} {l : List (Int × Int × Int)} {m n : Nat} (hm : m ≤ 200) (hn : n ≤ 200) (h1 : x1 = (m : Int)) (h2 : x2 = (n : Int)) (hc : matrix_Check x1 x2 x3 x5 x7 = some 0) (he : matrix_Entries x1 x2 x3 x5 x7 = some l) (hl : l.length ≤ 1000) (hr : ∀ e, e ∈ l → Bd m n e) :
    ∃ adj, graph_FromNormal x1 x2 x3 x5 x7 = some (adj, 0) ∧ Ng adj l n := by
  subst h1 h2
  unfold graph_FromNormal
  obtain ⟨rows, r1, r2, r3⟩ := rows_ok (l := l) (m := m) (n := n) (by omega) hr
  have hs : ∀ c, c ∈ rows → c.length ≤ 100000 ∧ ∀ x, x ∈ c → 0 ≤ x ∧ x < (n : Int) := by
    intro c hc
    obtain ⟨r, hr', hc'⟩ := List.mem_iff_getElem.1 hc
    have := r3 r (by omega)
    rw [List.getElem?_eq_getElem (by omega), hc'] at this
    obtain rfl := Option.some.inj this
    refine ⟨by have := cols_len (l := l) (r := r); omega, fun x hx => ?_⟩
    obtain ⟨e, he, _, rfl⟩ := cols_mem.1 hx
    exact (hr e he).2
  obtain ⟨T, t1, t2⟩ := fn_p (rows := rows) (n := n) (by omega) hs
  rw [bindS hc, if_pos rfl, bindS (mkL_nat ([] : List Int) m (by omega)), bindS he, bindS r1, bindS (newSets_ok (by omega)), bindS t1, bindS (sgraph_ok t2 (by omega))]
  refine ⟨_, rfl, coll_gr (fun i j h => ⟨Ne.symm h.1, h.2.symm⟩) (fun i h => h.1 rfl), by simp, fun v w hv hw ll hll => ?_⟩
  simp only [List.getElem?_map, List.getElem?_range hv, Option.map_some, Option.some.injEq] at hll
  subst hll
  refine Iff.trans (coll_memx _ n) ?_
  simp only [Int.toNat_natCast, Nb]
  constructor
  · rintro ⟨_, _, h3, h4⟩
    exact ⟨h3, (nb_rows hr r2 r3 h3).1 h4⟩
  · rintro ⟨h3, h4⟩
    exact ⟨by omega, hw, h3, (nb_rows hr r2 r3 h3).2 h4⟩

end Pw
/- Small values; packing entries makes a valid matrix. -/
set_option linter.unusedSimpArgs false
set_option linter.unusedVariables false
namespace Pw
open Pu Pl Sx Go M Vc

/-! ### values -/
def vtest (r e : Int) : Bool := match sparsemake_Value_j1 r e with
  | some v => Fn v
  | none => false
set_option maxRecDepth 1000000 in
theorem vall : ((List.range 17).all fun r => (List.range 13).all fun e => vtest (r : Int) ((e : Int) - 6)) = true := by kernel_rfl
theorem vone {r e : Nat} (hr : r < 17) (he : e < 13) : ∃ v, sparsemake_Value_j1 (r : Int) ((e : Int) - 6) = some v ∧ Fn v = true := by
  have h := List.all_eq_true.1 vall r (List.mem_range.2 hr)
  have h := List.all_eq_true.1 h e (List.mem_range.2 he)
  unfold vtest at h
  split at h
  · rename_i v hv
    exact ⟨v, hv, h⟩
  · cases h

theorem value_ok (x : Int) : ∃ v, sparsemake_Value x = some v ∧ Fn v = true := by
  unfold sparsemake_Value
  obtain ⟨r, h1, h2⟩ := place_ok x 17 (by omega) (by omega)
  have h1' : sparsekit_Place x 17 = some (r : Int) := h1
  rw [bindS h1']
  split
  · have hx : 0 ≤ wc .u64 x ∧ wc .u64 x < 18446744073709551616 := by unfold wc; rw [IntKind.wrap_u64]; omega
    generalize wc .u64 x = y at hx
    have e1 : wqc .u64 y 17 = y / 17 := by
      unfold wqc
      rw [Int.tdiv_eq_ediv_of_nonneg hx.1]
      exact IntWalk.u64_in _ (by omega)
    have e2 : wc .i64 (y / 17) = y / 17 := by unfold wc; exact IntWalk.i64_in _ (by constructor <;> omega)
    have e3 : wqc .i64 (y / 17) 3 = y / 17 / 3 := by
      unfold wqc
      rw [Int.tdiv_eq_ediv_of_nonneg (by omega)]
      exact IntWalk.i64_in _ (by constructor <;> omega)
    have e4 : wrc (y / 17 / 3) 13 = y / 17 / 3 % 13 := by
      unfold wrc
      exact Int.tmod_eq_emod_of_nonneg (by omega)
    rw [e1, e2, e3, e4]
    obtain ⟨e, he⟩ := Int.eq_ofNat_of_zero_le (show 0 ≤ y / 17 / 3 % 13 by omega)
    rw [he, ws_i (by omega) (by omega)]
    exact vone h2 (by omega)
  · exact vone (e := 6) h2 (by omega)

/-! ### packing -/
def El (m n : Nat) (e : Int × Int × Int) : Prop := Bd m n e ∧ Fn e.2.2 = true

theorem pack_table {E : List (Int × Int × Int)} {m n : Nat} (hm : m ≤ 200) (hn : n ≤ 200) (hl : E.length ≤ 1000) (hE : ∀ e, e ∈ E → El m n e) :
    Ret (loop (sparseref09_Pack_l1 E (m : Int)) (List.replicate (m * n) 0, 0)) (fun T => T.length = m * n ∧ ∀ x, x ∈ T → 0 ≤ x ∧ x ≤ (E.length : Int)) := by
  refine ret_loop E.length (fun k (t : List Int × Int) => t.2 = k ∧ t.1.length = m * n ∧ ∀ x, x ∈ t.1 → 0 ≤ x ∧ x ≤ (E.length : Int)) ⟨rfl, by simp, fun x hx => by have := (List.mem_replicate.1 hx).2; omega⟩ ?_
  rintro k ⟨T, i⟩ hk ⟨rfl, h1, h2⟩
  simp only at h1 h2
  unfold sparseref09_Pack_l1
  by_cases hkl : k < E.length
  · obtain ⟨e, he⟩ : ∃ e, E[k]? = some e := ⟨E[k], by simp [hkl]⟩
    obtain ⟨⟨hr, hc⟩, _⟩ := hE e (mem_get he)
    obtain ⟨r, h3⟩ := Int.eq_ofNat_of_zero_le hr.1
    obtain ⟨c, h4⟩ := Int.eq_ofNat_of_zero_le hc.1
    have e1 : getI E (k : Int) = some e := he
    have e5 : (k : Int) < (E.length : Int) := by omega
    have hw : wa .i64 (k : Int) 1 = ((k + 1 : Nat) : Int) := wa1 (by omega)
    have hcm : c * m + m ≤ m * n := by
      have : (c + 1) * m ≤ n * m := Nat.mul_le_mul_right m (by omega)
      rw [Nat.succ_mul] at this
      rw [Nat.mul_comm m n]; exact this
    have hmn : m * n ≤ 200 * 200 := Nat.mul_le_mul hm hn
    have hw2 : wm .i64 (c : Int) (m : Int) = ((c * m : Nat) : Int) := by rw [wm_i (by rw [← Int.natCast_mul]; omega) (by rw [← Int.natCast_mul]; omega), Int.natCast_mul]
    have hw3 : wa .i64 ((c * m : Nat) : Int) (r : Int) = ((c * m + r : Nat) : Int) := by rw [wa_i (by omega) (by omega)]; omega
    simp only [ret_bind, ret_if, ret_get, ret_set, ret_app, ret_mkL, ret_sli, ret_wr, ret_wq, ret_some, vq_l, vq_r, Int.toNat_natCast, if_true, if_false, obs, decide_false, decide_true, Bool.false_eq_true, Bool.not_true, Bool.not_false, not_true_eq_false, not_false_eq_true, true_implies, false_implies, reduceCtorEq, true_and, and_true, false_and, or_false, false_or, implies_true, e1, e5, hw, h3, h4, hw2, hw3]
    refine ⟨by omega, by omega, hkl, by simp [h1], fun x hx => ?_⟩
    rcases List.mem_or_eq_of_mem_set hx with h | rfl
    · exact h2 x h
    · omega
  · have e5 : ¬ (k : Int) < (E.length : Int) := by omega
    simp only [ret_bind, ret_if, ret_get, ret_set, ret_app, ret_mkL, ret_sli, ret_wr, ret_wq, ret_some, vq_l, vq_r, Int.toNat_natCast, if_true, if_false, obs, decide_false, decide_true, Bool.false_eq_true, Bool.not_true, Bool.not_false, not_true_eq_false, not_false_eq_true, true_implies, false_implies, reduceCtorEq, true_and, and_true, false_and, or_false, false_or, implies_true, e5]
    exact ⟨h1, h2⟩

theorem pack_col {E : List (Int × Int × Int)} {T : List Int} {m n j : Nat} (hm : m ≤ 200) (hn : n ≤ 200) (hl : E.length ≤ 1000) (hE : ∀ e, e ∈ E → El m n e) (hT : T.length = m * n) (hT2 : ∀ x, x ∈ T → 0 ≤ x ∧ x ≤ (E.length : Int)) (hj : j < n)
    {i v : List Int} (hv : v.length = i.length) (hi : i.length ≤ j * m) (hF : Ff v) :
    Ret (loop (sparseref09_Pack_l13 (m : Int) T (j : Int) E) (i, v, 0)) (fun o => o.2.length = o.1.length ∧ Ff o.2 ∧ ∃ c : List Int, o.1 = i ++ c ∧ c.length ≤ m ∧ c.Pairwise (· < ·) ∧ ∀ x, x ∈ c → 0 ≤ x ∧ x < (m : Int)) := by
  have hcm : j * m + m ≤ m * n := by
    have : (j + 1) * m ≤ n * m := Nat.mul_le_mul_right m (by omega)
    rw [Nat.succ_mul] at this
    rw [Nat.mul_comm m n]; exact this
  have hmn : m * n ≤ 200 * 200 := Nat.mul_le_mul hm hn
  refine ret_loop m (fun k (t : List Int × List Int × Int) => t.2.2 = k ∧ t.2.1.length = t.1.length ∧ Ff t.2.1 ∧ ∃ c : List Int, t.1 = i ++ c ∧ c.length ≤ k ∧ c.Pairwise (· < ·) ∧ ∀ x, x ∈ c → 0 ≤ x ∧ x < (k : Int)) ⟨rfl, hv, hF, [], by simp⟩ ?_
  rintro k ⟨i', v', r⟩ hk ⟨rfl, h1, h2, c, h3, h4, h5, h6⟩
  simp only at h1 h2 h3
  subst h3
  unfold sparseref09_Pack_l13 sparseref09_Pack_j14
  by_cases hkm : k < m
  · have hw : wa .i64 (k : Int) 1 = ((k + 1 : Nat) : Int) := wa1 (by omega)
    have e5 : (k : Int) < (m : Int) := by omega
    have hw2 : wm .i64 (j : Int) (m : Int) = ((j * m : Nat) : Int) := by rw [wm_i (by rw [← Int.natCast_mul]; omega) (by rw [← Int.natCast_mul]; omega), Int.natCast_mul]
    have hw3 : wa .i64 ((j * m : Nat) : Int) (k : Int) = ((j * m + k : Nat) : Int) := by rw [wa_i (by omega) (by omega)]; omega
    obtain ⟨x, hx⟩ : ∃ x, T[j * m + k]? = some x := ⟨T[j * m + k]'(by omega), by simp [show j * m + k < T.length by omega]⟩
    have hxr := hT2 x (mem_get hx)
    have e1 : getI T ((j * m + k : Nat) : Int) = some x := hx
    have hlen : (i ++ c).length = i.length + c.length := List.length_append
    by_cases h0 : (0 : Int) < x
    · obtain ⟨q, hq⟩ : ∃ q : Nat, x = (q : Int) + 1 := ⟨(x - 1).toNat, by omega⟩
      subst hq
      obtain ⟨e, he⟩ : ∃ e, E[q]? = some e := ⟨E[q]'(by omega), by simp [show q < E.length by omega]⟩
      have e2 : getI E (q : Int) = some e := he
      have hw4 : ws .i64 ((q : Int) + 1) 1 = (q : Int) := by rw [ws_i (by omega) (by omega)]; omega
      simp only [ret_bind, ret_if, ret_get, ret_set, ret_app, ret_mkL, ret_sli, ret_wr, ret_wq, ret_some, vq_l, vq_r, Int.toNat_natCast, if_true, if_false, obs, decide_false, decide_true, Bool.false_eq_true, Bool.not_true, Bool.not_false, not_true_eq_false, not_false_eq_true, true_implies, false_implies, reduceCtorEq, true_and, and_true, false_and, or_false, false_or, implies_true, e1, e2, e5, h0, hw, hw2, hw3, hw4]
      refine ⟨by rw [hlen, List.length_singleton]; omega, by rw [h1, hlen, List.length_singleton]; omega, hkm, by rw [List.length_append, List.length_append, h1]; rfl, fun f hf => ?_, c ++ [(k : Int)], by rw [List.append_assoc], by rw [List.length_append, List.length_singleton]; omega, ?_, fun y hy => ?_⟩
      · rw [List.mem_append, List.mem_singleton] at hf
        rcases hf with hf | rfl
        · exact h2 f hf
        · exact (hE e (mem_get he)).2
      · rw [pw_snoc]
        exact ⟨h5, fun y hy => by have := h6 y hy; omega⟩
      · rw [List.mem_append, List.mem_singleton] at hy
        rcases hy with hy | rfl
        · have := h6 y hy; omega
        · omega
    · simp only [ret_bind, ret_if, ret_get, ret_set, ret_app, ret_mkL, ret_sli, ret_wr, ret_wq, ret_some, vq_l, vq_r, Int.toNat_natCast, if_true, if_false, obs, decide_false, decide_true, Bool.false_eq_true, Bool.not_true, Bool.not_false, not_true_eq_false, not_false_eq_true, true_implies, false_implies, reduceCtorEq, true_and, and_true, false_and, or_false, false_or, implies_true, e1, e5, h0, hw, hw2, hw3]
      exact ⟨hkm, h1, h2, c, rfl, by omega, h5, fun y hy => by have := h6 y hy; omega⟩
  · have e5 : ¬ (k : Int) < (m : Int) := by omega
    simp only [ret_bind, ret_if, ret_get, ret_set, ret_app, ret_mkL, ret_sli, ret_wr, ret_wq, ret_some, vq_l, vq_r, Int.toNat_natCast, if_true, if_false, obs, decide_false, decide_true, Bool.false_eq_true, Bool.not_true, Bool.not_false, not_true_eq_false, not_false_eq_true, true_implies, false_implies, reduceCtorEq, true_and, and_true, false_and, or_false, false_or, implies_true, e5]
    exact ⟨h1, h2, c, rfl, by omega, h5, fun y hy => by have := h6 y hy; omega⟩

theorem mo_snoc {s : List Int} {x : Int} (h : Mo s) (hl : ∀ a, s[s.length - 1]? = some a → a ≤ x) : Mo (s ++ [x]) := by
  intro j a b ha hb
  by_cases hj : j + 1 < s.length
  · rw [List.getElem?_append_left (by omega)] at ha hb
    exact h j a b ha hb
  · by_cases hj2 : j + 1 = s.length
    · rw [List.getElem?_append_left (by omega)] at ha
      rw [List.getElem?_append_right (by omega), hj2] at hb
      simp at hb
      subst hb
      refine hl a ?_
      rw [← ha]
      congr 1
      omega
    · rw [List.getElem?_eq_none (by simp; omega)] at hb
      cases hb

theorem cl_snoc {m : Int} {s i c : List Int} (hp : 0 < s.length) (hM : Mo s) (hs : s[s.length - 1]? = some (i.length : Int)) (h : Cl m s i) (hc : c.Pairwise (· < ·)) (hr : ∀ x, x ∈ c → 0 ≤ x ∧ x < m) :
    Cl m (s ++ [((i ++ c).length : Int)]) (i ++ c) := by
  intro j a b ha hb k x hak hkb hx
  by_cases hj : j + 1 < s.length
  · rw [List.getElem?_append_left (by omega)] at ha hb
    have hbl := mo_le hM (show j + 1 ≤ s.length - 1 by omega) hb hs
    rw [List.getElem?_append_left (by omega)] at hx
    have := h j a b ha hb k x hak hkb hx
    refine ⟨this.1, this.2.1, fun h1 i' hi' => this.2.2 h1 i' ?_⟩
    rwa [List.getElem?_append_left (by omega)] at hi'
  · by_cases hj2 : j + 1 = s.length
    · rw [List.getElem?_append_left (by omega), show j = s.length - 1 by omega, hs] at ha
      have ha' := Option.some.inj ha
      rw [List.getElem?_append_right (by omega)] at hx
      have h1 := hr x (mem_get hx)
      refine ⟨h1.1, h1.2, fun h2 i' hi' => ?_⟩
      rw [List.getElem?_append_right (by omega)] at hi'
      obtain ⟨l1, e1⟩ := List.getElem?_eq_some_iff.1 hx
      obtain ⟨l2, e2⟩ := List.getElem?_eq_some_iff.1 hi'
      have := asc_get hc l1 (i := k - 1 - i.length) (by omega)
      rw [e1, e2] at this
      exact this
    · rw [List.getElem?_eq_none (by simp; omega)] at hb
      cases hb

theorem pack_ok {E : List (Int × Int × Int)} {m n : Nat} (hm : m ≤ 50) (hn : n ≤ 50) (hl : E.length ≤ 1000) (hE : ∀ e, e ∈ E → El m n e) :
    ∃ s i v, sparseref09_Pack (m : Int) (n : Int) E = some ((m : Int), (n : Int), s, i, v) ∧ Va m n s i v ∧ Ff v ∧ i.length ≤ m * n ∧ s.length = n + 1 := by
  obtain ⟨T, t1, t2, t3⟩ := pack_table (E := E) (m := m) (n := n) (by omega) (by omega) hl hE
  have hmn : m * n ≤ 50 * 50 := Nat.mul_le_mul hm hn
  have hw2 : wm .i64 (m : Int) (n : Int) = ((m * n : Nat) : Int) := by rw [wm_i (by rw [← Int.natCast_mul]; omega) (by rw [← Int.natCast_mul]; omega), Int.natCast_mul]
  have hloop : Ret (loop (sparseref09_Pack_l10 (n : Int) (m : Int) T E) ([0], [], [], 0)) (fun o => o.1.length = n + 1 ∧ o.1[0]? = some 0 ∧ o.1[n]? = some (o.2.1.length : Int) ∧ o.2.2.length = o.2.1.length ∧ o.2.1.length ≤ n * m ∧ Mo o.1 ∧ Cl m o.1 o.2.1 ∧ Ff o.2.2) := by
    refine ret_loop n (fun k (t : List Int × List Int × List Int × Int) => t.2.2.2 = k ∧ t.1.length = k + 1 ∧ t.1[0]? = some 0 ∧ t.1[k]? = some (t.2.1.length : Int) ∧ t.2.2.1.length = t.2.1.length ∧ t.2.1.length ≤ k * m ∧ Mo t.1 ∧ Cl m t.1 t.2.1 ∧ Ff t.2.2.1)
      ⟨rfl, rfl, rfl, rfl, rfl, by simp, fun j a b ha hb => by simp at hb, fun j a b ha hb => by simp at hb, fun f hf => by simp at hf⟩ ?_
    rintro k ⟨s, i, v, r⟩ hk ⟨rfl, h1, h2, h3, h4, h5, h6, h7, h8⟩
    simp only at h1 h2 h3 h4 h5 h6 h7 h8
    unfold sparseref09_Pack_l10
    by_cases hkn : k < n
    · have hw : wa .i64 (k : Int) 1 = ((k + 1 : Nat) : Int) := wa1 (by omega)
      have e5 : (k : Int) < (n : Int) := by omega
      have hkm : k * m ≤ n * m := Nat.mul_le_mul_right m (by omega)
      simp only [ret_bind, ret_if, ret_get, ret_set, ret_app, ret_mkL, ret_sli, ret_wr, ret_wq, ret_some, vq_l, vq_r, Int.toNat_natCast, if_true, if_false, obs, decide_false, decide_true, Bool.false_eq_true, Bool.not_true, Bool.not_false, not_true_eq_false, not_false_eq_true, true_implies, false_implies, reduceCtorEq, true_and, and_true, false_and, or_false, false_or, implies_true, e5, hw]
      refine ret_call (pack_col (by omega) (by omega) hl hE t2 t3 hkn h4 h5 h8) ?_
      rintro ⟨i', v'⟩ ⟨g1, g2, c, g3, g4, g5, g6⟩
      simp only at g1 g2 g3
      subst g3
      simp only [ret_bind, ret_if, ret_get, ret_set, ret_app, ret_mkL, ret_sli, ret_wr, ret_wq, ret_some, vq_l, vq_r, Int.toNat_natCast, if_true, if_false, obs, decide_false, decide_true, Bool.false_eq_true, Bool.not_true, Bool.not_false, not_true_eq_false, not_false_eq_true, true_implies, false_implies, reduceCtorEq, true_and, and_true, false_and, or_false, false_or, implies_true]
      have hlen : (i ++ c).length = i.length + c.length := List.length_append
      refine ⟨by rw [h1, List.length_singleton]; omega, hkn, by simp [h1], by rw [List.getElem?_append_left (by omega)]; exact h2, by rw [List.getElem?_append_right (by omega), h1]; simp, g1, by rw [hlen, Nat.succ_mul]; omega, mo_snoc h6 (fun a ha => ?_), cl_snoc (by omega) h6 (by rw [h1]; exact h3) h7 g5 g6, g2⟩
      rw [h1, show k + 1 - 1 = k by omega, h3] at ha
      have := Option.some.inj ha
      omega
    · have e5 : ¬ (k : Int) < (n : Int) := by omega
      simp only [ret_bind, ret_if, ret_get, ret_set, ret_app, ret_mkL, ret_sli, ret_wr, ret_wq, ret_some, vq_l, vq_r, Int.toNat_natCast, if_true, if_false, obs, decide_false, decide_true, Bool.false_eq_true, Bool.not_true, Bool.not_false, not_true_eq_false, not_false_eq_true, true_implies, false_implies, reduceCtorEq, true_and, and_true, false_and, or_false, false_or, implies_true, e5]
      obtain rfl : k = n := by omega
      exact ⟨h1, h2, h3, h4, h5, h6, h7, h8⟩
  obtain ⟨⟨s, i, v⟩, l1, l2, l3, l4, l5, l6, l7, l8, l9⟩ := hloop
  simp only at l2 l3 l4 l5 l6 l7 l8 l9
  refine ⟨s, i, v, ?_, ⟨⟨⟨by omega, by omega⟩, ⟨by omega, by omega⟩, by rw [Nat.mul_comm] at l6; omega⟩, ⟨l5, by omega, l3, by simpa using l4⟩, l7, l8⟩, l9, by rw [Nat.mul_comm m n]; exact l6, l2⟩
  unfold sparseref09_Pack
  rw [hw2, bindS (mkL_nat 0 (m * n) (by omega)), bindS t1, bindS l1]

theorem matrix_ok {m n : Nat} (hm : m ≤ 50) (hn : n ≤ 50) (l : List Int) (hl : l.length ≤ 1000) :
    ∃ s i v, sparsemake_Matrix (m : Int) (n : Int) l = some ((m : Int), (n : Int), s, i, v) ∧ Va m n s i v ∧ Ff v ∧ i.length ≤ m * n ∧ s.length = n + 1 := by
  have hloop : Ret (loop (sparsemake_Matrix_l5 l (m : Int) (n : Int)) ([], 0)) (fun E => E.length ≤ 1000 ∧ ∀ e, e ∈ E → El m n e) := by
    refine ret_loop l.length (fun k (t : List (Int × Int × Int) × Int) => t.2 = ((3 * k : Nat) : Int) ∧ t.1.length = k ∧ ∀ e, e ∈ t.1 → El m n e) ⟨rfl, rfl, fun e he => by simp at he⟩ ?_
    rintro k ⟨E, i⟩ hk ⟨rfl, h1, h2⟩
    simp only at h1 h2
    unfold sparsemake_Matrix_l5
    have hw1 : wa .i64 ((3 * k : Nat) : Int) 1 = ((3 * k + 1 : Nat) : Int) := wa1 (by omega)
    have hw2 : wa .i64 ((3 * k : Nat) : Int) 2 = ((3 * k + 2 : Nat) : Int) := by rw [wa_i (by omega) (by omega)]; omega
    have hw3 : wa .i64 ((3 * k : Nat) : Int) 3 = ((3 * (k + 1) : Nat) : Int) := by rw [wa_i (by omega) (by omega)]; omega
    by_cases hc : 3 * k + 2 < l.length ∧ 0 < m ∧ 0 < n
    · obtain ⟨hk2, hm0, hn0⟩ := hc
      have e5 : (((decide (((3 * k + 2 : Nat) : Int) < (l.length : Int))) && (decide ((0 : Int) < (m : Int)))) && (decide ((0 : Int) < (n : Int)))) = true := by simp; omega
      obtain ⟨x, hx⟩ : ∃ x, l[3 * k]? = some x := ⟨l[3 * k]'(by omega), by simp [show 3 * k < l.length by omega]⟩
      obtain ⟨y, hy⟩ : ∃ y, l[3 * k + 1]? = some y := ⟨l[3 * k + 1]'(by omega), by simp [show 3 * k + 1 < l.length by omega]⟩
      obtain ⟨z, hz⟩ : ∃ z, l[3 * k + 2]? = some z := ⟨l[3 * k + 2]'(by omega), by simp [show 3 * k + 2 < l.length by omega]⟩
      have e1 : getI l ((3 * k : Nat) : Int) = some x := hx
      have e2 : getI l ((3 * k + 1 : Nat) : Int) = some y := hy
      have e3 : getI l ((3 * k + 2 : Nat) : Int) = some z := hz
      obtain ⟨r, p1, p2⟩ := place_ok x m hm0 (by omega)
      obtain ⟨c, q1, q2⟩ := place_ok y n hn0 (by omega)
      obtain ⟨v, v1, v2⟩ := value_ok z
      simp only [ret_bind, ret_if, ret_get, ret_set, ret_app, ret_mkL, ret_sli, ret_wr, ret_wq, ret_some, vq_l, vq_r, Int.toNat_natCast, if_true, if_false, obs, decide_false, decide_true, Bool.false_eq_true, Bool.not_true, Bool.not_false, not_true_eq_false, not_false_eq_true, true_implies, false_implies, reduceCtorEq, true_and, and_true, false_and, or_false, false_or, implies_true, hw1, hw2, hw3, e5, e1, e2, e3, p1, q1, v1]
      refine ⟨by rw [List.length_singleton]; omega, by omega, by rw [List.length_append, h1, List.length_singleton], fun e he => ?_⟩
      rw [List.mem_append, List.mem_singleton] at he
      rcases he with he | rfl
      · exact h2 e he
      · exact ⟨⟨⟨by simp only; omega, by simp only; omega⟩, ⟨by simp only; omega, by simp only; omega⟩⟩, v2⟩
    · have e5 : (((decide (((3 * k + 2 : Nat) : Int) < (l.length : Int))) && (decide ((0 : Int) < (m : Int)))) && (decide ((0 : Int) < (n : Int)))) = false := by
        rw [← Bool.not_eq_true]
        simp only [Bool.and_eq_true, decide_eq_true_eq]
        omega
      simp only [ret_bind, ret_if, ret_get, ret_set, ret_app, ret_mkL, ret_sli, ret_wr, ret_wq, ret_some, vq_l, vq_r, Int.toNat_natCast, if_true, if_false, obs, decide_false, decide_true, Bool.false_eq_true, Bool.not_true, Bool.not_false, not_true_eq_false, not_false_eq_true, true_implies, false_implies, reduceCtorEq, true_and, and_true, false_and, or_false, false_or, implies_true, hw2, e5]
      exact ⟨by omega, h2⟩
  obtain ⟨E, e1, e2, e3⟩ := hloop
  obtain ⟨s, i, v, p1, p2, p3, p4, p5⟩ := pack_ok (E := E) hm hn e2 e3
  refine ⟨s, i, v, ?_, p2, p3, p4, p5⟩
  unfold sparsemake_Matrix
  rw [bindS e1, bindS p1]

theorem check_zero {x1 x2 : Int} {x3 x5 x7 : List Int} (hV : Va x1 x2 x3 x5 x7) (hF : Ff x7) (h3 : x3.length ≤ 100000) (h5 : x5.length ≤ 100000) : matrix_Check x1 x2 x3 x5 x7 = some 0 := by
  obtain ⟨e, h1, h2⟩ := check_p (x1 := x1) (x2 := x2) (x3 := x3) (x5 := x5) (x7 := x7) h3 h5 (by have := hV.hd.lv; omega)
  have : Ot x1 x2 x3 x5 x7 0 := .inr (.inr (.inr ⟨rfl, hV.sz, ⟨hV.hd, hV.mo, hV.cl⟩, hF⟩))
  rw [h1, h2.uniq this]

end Pw
/- Sorting short lists of entries by columns, then rows: the library's stable sort. -/
set_option linter.unusedSimpArgs false
set_option linter.unusedVariables false
namespace Px
open Pu Pl Sx Go M Vc

abbrev En3 := Int × Int × Int
def Le (a b : En3) : Prop := a.2.1 < b.2.1 ∨ (a.2.1 = b.2.1 ∧ a.1 ≤ b.1)

theorem compare_ok (x y : Int) : cmp_Compare_int x y = some (if x < y then -1 else if y < x then 1 else 0) := by
  unfold cmp_Compare_int cmp_isNaN_int
  simp only [decide_true, Bool.not_true, obs, Bool.false_eq_true, if_false]
  split
  · rfl
  · split <;> rfl
theorem or_gen {l : List Int} {x y : Int} (g0 : getI l 0 = some x) (g1 : getI l 1 = some y) (hl : l.length = 2) : cmp_Or_int l = some (if x = 0 then y else x) := by
  refine Ret.eq ?_
  unfold cmp_Or_int
  simp only [ret_bind]
  refine ret_call (P := fun o => (x = 0 ∧ y = 0 ∧ o = .inl ()) ∨ ((x ≠ 0 ∨ y ≠ 0) ∧ o = .inr (if x = 0 then y else x))) ?_ ?_
  · refine ret_loop 2 (fun k (t : Int) => t = k ∧ (0 < k → x = 0) ∧ (1 < k → y = 0)) ⟨rfl, by omega, by omega⟩ ?_
    rintro k _ hk ⟨rfl, h1, h2⟩
    unfold cmp_Or_int_l1
    have hk3 : k = 0 ∨ k = 1 ∨ k = 2 := by omega
    rcases hk3 with rfl | rfl | rfl
    · have e1 : getI l ((0 : Nat) : Int) = some x := g0
      have e5 : ((0 : Nat) : Int) < (l.length : Int) := by omega
      have hw : wa .i64 ((0 : Nat) : Int) 1 = ((0 + 1 : Nat) : Int) := wa1 (by omega)
      by_cases hx : x = 0
      · rw [if_pos e5]
        simp only [ret_bind, ret_of e1]
        rw [if_pos hx, ret_some, vq_l]
        exact ⟨by omega, hw, fun _ => hx, fun h => by omega⟩
      · rw [if_pos e5]
        simp only [ret_bind, ret_of e1]
        rw [if_neg hx, ret_some, vq_r]
        exact .inr ⟨.inl hx, by rw [if_neg hx]⟩
    · have e1 : getI l ((1 : Nat) : Int) = some y := g1
      have e5 : ((1 : Nat) : Int) < (l.length : Int) := by omega
      have hw : wa .i64 ((1 : Nat) : Int) 1 = ((1 + 1 : Nat) : Int) := wa1 (by omega)
      have hx := h1 (by omega)
      by_cases hy : y = 0
      · rw [if_pos e5]
        simp only [ret_bind, ret_of e1]
        rw [if_pos hy, ret_some, vq_l]
        exact ⟨by omega, hw, fun _ => hx, fun _ => hy⟩
      · rw [if_pos e5]
        simp only [ret_bind, ret_of e1]
        rw [if_neg hy, ret_some, vq_r]
        exact .inr ⟨.inr hy, by rw [if_pos hx]⟩
    · have e5 : ¬ ((2 : Nat) : Int) < (l.length : Int) := by omega
      rw [if_neg e5, ret_some, vq_r]
      exact .inl ⟨h1 (by omega), h2 (by omega), rfl⟩
  · rintro o (⟨hx, hy, rfl⟩ | ⟨_, rfl⟩)
    · simp only [ret_some]; rw [if_pos hx, hy]
    · simp only [ret_some]
theorem or_ok (x y : Int) : cmp_Or_int [x, y] = some (if x = 0 then y else x) := or_gen rfl rfl rfl
theorem less_e (a b : En3) : ∃ c, matrix_sorted_1 a.1 a.2.1 a.2.2 b.1 b.2.1 b.2.2 = some c ∧ (c < 0 ↔ LT a b) := by
  unfold matrix_sorted_1
  rw [bindS (compare_ok _ _), bindS (compare_ok _ _), bindS (or_ok _ _)]
  refine ⟨_, rfl, ?_⟩
  unfold Pu.LT
  split <;> split <;> (try split) <;> (try split) <;> omega

def SrtE (s : List En3) (k : Nat) : Prop := ∀ i j, ∀ hj : j < s.length, ∀ hij : i < j, j < k → Le s[i] s[j]
def SrtEB (s : List En3) (k q : Nat) : Prop := ∀ i j, ∀ hj : j < s.length, ∀ hij : i < j, j < k → j ≠ q → Le s[i] s[j]

theorem swapE {s : List En3} {k q : Nat} (hq : q < s.length) (hq0 : 0 < q) (h : SrtEB s k q) (hlt : LT s[q] s[q - 1]) : SrtEB ((s.set q s[q - 1]).set (q - 1) s[q]) k (q - 1) := by
  intro i j hj hij hjk hne
  simp only [List.length_set] at hj
  simp only [List.getElem_set]
  have e1 : ∀ (a : Nat) (ha : a < s.length), (if q - 1 = a then s[q] else if q = a then s[q - 1] else s[a]) = (if a = q - 1 then s[q] else if a = q then s[q - 1] else s[a]) := by
    intro a ha
    by_cases h1 : q - 1 = a
    · rw [if_pos h1, if_pos h1.symm]
    · rw [if_neg h1, if_neg (show ¬ a = q - 1 by omega)]
      by_cases h2 : q = a
      · rw [if_pos h2, if_pos (show a = q by omega)]
      · rw [if_neg h2, if_neg (show ¬ a = q by omega)]
  rw [e1 i (by omega), e1 j hj]
  rw [if_neg hne]
  by_cases hj2 : j = q
  · rw [if_pos hj2]
    by_cases hi : i = q - 1
    · rw [if_pos hi]; unfold Pu.LT at hlt; unfold Le; omega
    · rw [if_neg hi, if_neg (by omega)]
      exact h i (q - 1) (by omega) (by omega) (by omega) (by omega)
  · rw [if_neg hj2]
    by_cases hi : i = q - 1
    · rw [if_pos hi]
      by_cases hjq : q < j
      · exact h q j hj hjq hjk hj2
      · omega
    · rw [if_neg hi]
      by_cases hi2 : i = q
      · rw [if_pos hi2]
        exact h (q - 1) j hj (by omega) hjk hj2
      · rw [if_neg hi2]
        exact h i j hj hij hjk hj2

theorem insertE {s : List En3} {k : Nat} (hs : s.length ≤ 1000) (hk : k < s.length) (h : SrtE s k) : ∃ o, loop (slices_insertionSortCmpFunc_apiEntry_l28 0) (s, (k : Int)) = some o ∧ o.Perm s ∧ SrtE o (k + 1) := by
  obtain ⟨o, h1, h2⟩ := whileG (step := slices_insertionSortCmpFunc_apiEntry_l28 0) (s := (s, (k : Int))) (fun t => ∃ q : Nat, t.2 = (q : Int) ∧ q ≤ k ∧ t.1.Perm s ∧ SrtEB t.1 (k + 1) q) (fun o => o.Perm s ∧ SrtE o (k + 1)) (fun t => t.2.toNat)
    ⟨k, rfl, Nat.le_refl _, .refl _, fun i j hj hij hjk hne => h i j hj hij (by omega)⟩ (by simp only; omega) (by
    rintro ⟨t, q'⟩ ⟨q, hq, hqk, hp, hb⟩
    simp only at hq hp hb
    subst hq
    have hl := hp.length_eq
    have hql : q < t.length := by omega
    unfold slices_insertionSortCmpFunc_apiEntry_l28
    simp only
    by_cases h0 : 0 < q
    · have e : ws .i64 (q : Int) 1 = ((q - 1 : Nat) : Int) := by rw [ws_in (by constructor <;> omega)]; omega
      obtain ⟨c, c1, c2⟩ := less_e t[q] (t[q - 1]'(by omega))
      rw [if_pos (by omega), e, bindS (getI_lt hql), bindS (getI_lt (show q - 1 < t.length by omega)), bindS c1]
      simp only [Option.bind_some]
      by_cases hlt : c < 0
      · rw [if_pos (by simpa using hlt), bindS (getI_lt (show q - 1 < t.length by omega)), bindS (getI_lt hql), bindS (setI_lt hql), bindS (setI_lt (by simp; omega))]
        exact .inl ⟨_, rfl, ⟨q - 1, rfl, by omega, (List.set_set_perm hql (by omega)).trans hp, swapE hql h0 hb (c2.1 hlt)⟩, by simp only; omega⟩
      · rw [if_neg (by simpa using hlt)]
        have hle : Le (t[q - 1]'(by omega)) t[q] := by
          have : ¬ Pu.LT t[q] (t[q - 1]'(by omega)) := fun h => hlt (c2.2 h)
          unfold Pu.LT at this; unfold Le; omega
        refine .inr ⟨_, rfl, hp, fun i j hj hij hjk => ?_⟩
        by_cases hjq : j = q
        · subst hjq
          by_cases hi : i = j - 1
          · subst hi; exact hle
          · have := hb i (j - 1) (by omega) (by omega) (by omega) (by omega)
            unfold Le at *; omega
        · exact hb i j hj hij hjk hjq
    · rw [if_neg (by omega)]
      simp only [Option.bind_some, Bool.false_eq_true, if_false]
      refine .inr ⟨_, rfl, hp, fun i j hj hij hjk => hb i j hj hij hjk (by omega)⟩)
  exact ⟨o, h1, h2⟩
/-- one block is sorted in place, behind what is sorted already -/
theorem insertionE {l : List En3} {n : Nat} (hn : n ≤ l.length) (hl : l.length ≤ 1000) : ∃ m, slices_insertionSortCmpFunc_apiEntry l 0 (n : Int) = some m ∧ m.Perm l ∧ SrtE m n := by
  unfold slices_insertionSortCmpFunc_apiEntry
  rw [wa_in (by constructor <;> omega)]
  obtain ⟨o, h1, h2⟩ := whileG (step := slices_insertionSortCmpFunc_apiEntry_l21 (n : Int) 0) (s := (l, 0 + 1)) (fun t => ∃ k : Nat, t.2 = (k : Int) ∧ 1 ≤ k ∧ t.1.Perm l ∧ SrtE t.1 k) (fun o => o.Perm l ∧ SrtE o n) (fun t => (n - t.2).toNat)
    ⟨1, rfl, Nat.le_refl _, .refl _, fun i j hj hij hjk => by omega⟩ (by simp only; omega) (by
    rintro ⟨t, k'⟩ ⟨k, hk, hk1, hp, hs⟩
    simp only at hk hp hs
    subst hk
    have hlen := hp.length_eq
    unfold slices_insertionSortCmpFunc_apiEntry_l21
    simp only
    by_cases hc : k < n
    · obtain ⟨o, h1, h2, h3⟩ := insertE (s := t) (k := k) (by omega) (by omega) hs
      rw [if_pos (by omega), bindS h1, wa1 (by omega)]
      exact .inl ⟨_, rfl, ⟨k + 1, rfl, by omega, h2.trans hp, h3⟩, by simp only; omega⟩
    · rw [if_neg (by omega)]
      exact .inr ⟨_, rfl, hp, fun i j hj hij hjk => hs i j hj hij (by omega)⟩)
  rw [bindS h1]
  exact ⟨o, rfl, h2⟩
theorem insertion_none {l : List En3} : slices_insertionSortCmpFunc_apiEntry l 20 20 = some l := by
  unfold slices_insertionSortCmpFunc_apiEntry
  rw [wa_in (by constructor <;> omega)]
  refine Ret.eq ?_
  simp only [ret_bind, ret_some]
  refine ret_loop 0 (fun k (t : List En3 × Int) => t = (l, 20 + 1)) rfl ?_
  rintro k _ hk rfl
  unfold slices_insertionSortCmpFunc_apiEntry_l21
  simp only
  rw [if_neg (by omega), ret_some, vq_r]

theorem stableE {l : List En3} (hl : l.length ≤ 20) : ∃ m, slices_SortStableFunc_apiEntry l = some m ∧ m.Perm l ∧ m.Pairwise Le := by
  have pw : ∀ m : List En3, m.length = l.length → SrtE m l.length → m.Pairwise Le := by
    intro m hm h
    rw [List.pairwise_iff_getElem]
    intro i j hi hj hij
    exact h i j hj hij (by omega)
  obtain ⟨m, h1, h2, h3⟩ := insertionE (l := l) (n := l.length) (Nat.le_refl _) (by omega)
  refine ⟨m, ?_, h2, pw m h2.length_eq h3⟩
  have h6 : loop (slices_stableCmpFunc_apiEntry_l6 (l.length : Int)) 20 = some () := by
    refine Ret.eq ?_
    refine ret_loop 0 (fun k (t : Int) => t = 20) rfl ?_
    rintro k _ hk rfl
    unfold slices_stableCmpFunc_apiEntry_l6
    rw [if_neg (by omega), ret_some, vq_r]
  unfold slices_SortStableFunc_apiEntry slices_stableCmpFunc_apiEntry
  by_cases h20 : l.length = 20
  · have hl1 : loop (slices_stableCmpFunc_apiEntry_l1 (l.length : Int)) (l, 0, 20) = some (m, 20) := by
      refine Ret.eq ?_
      refine ret_loop 1 (fun k (t : List En3 × Int × Int) => (k = 0 ∧ t = (l, 0, 20)) ∨ (k = 1 ∧ t = (m, 20, 40))) (.inl ⟨rfl, rfl⟩) ?_
      rintro k t hk (⟨rfl, rfl⟩ | ⟨rfl, rfl⟩)
      · unfold slices_stableCmpFunc_apiEntry_l1
        simp only
        have e : slices_insertionSortCmpFunc_apiEntry l 0 20 = some m := by rw [← h1, h20]; rfl
        have hw : wa .i64 20 20 = 40 := by rw [wa_i (by omega) (by omega)]; rfl
        rw [if_pos (by omega), bindS e, hw, ret_some, vq_l]
        exact ⟨by omega, by simp⟩
      · unfold slices_stableCmpFunc_apiEntry_l1
        simp only
        rw [if_neg (by omega), ret_some, vq_r]
    rw [bindS hl1]
    simp only
    rw [show (l.length : Int) = 20 by omega] at h6 ⊢
    rw [bindS insertion_none, bindS h6]
    rfl
  · have hl1 : loop (slices_stableCmpFunc_apiEntry_l1 (l.length : Int)) (l, 0, 20) = some (l, 0) := by
      refine Ret.eq ?_
      refine ret_loop 0 (fun k (t : List En3 × Int × Int) => t = (l, 0, 20)) rfl ?_
      rintro k _ hk rfl
      unfold slices_stableCmpFunc_apiEntry_l1
      simp only
      rw [if_neg (by omega), ret_some, vq_r]
    rw [bindS hl1]
    simp only
    rw [bindS h1, bindS h6]
    rfl

theorem sortedE {l : List En3} (hl : l.length ≤ 20) : ∃ m, matrix_sorted l = some m ∧ m.Perm l ∧ m.Pairwise Le := by
  obtain ⟨m, h1, h2, h3⟩ := stableE hl
  refine ⟨m, ?_, h2, h3⟩
  have hc : slices_Clone_apiEntry l = some l := by
    unfold slices_Clone_apiEntry app BIG
    rw [if_pos (by simp; omega)]
    simp
  unfold matrix_sorted
  rw [bindS hc, bindS h1]
end Px
/- What lies in a matrix: by its columns' parts; entries and stored places. (Under way.) -/
set_option linter.unusedSimpArgs false
set_option linter.unusedVariables false
namespace Px
open Pu Pl Sx Go M Vc

/-- row r has an entry in column c -/
def Sd (s i : List Int) (r c : Nat) : Prop := ∃ (k : Nat) (a b : Int), s[c]? = some a ∧ s[c + 1]? = some b ∧ a ≤ (k : Int) ∧ (k : Int) < b ∧ i[k]? = some (r : Int)

theorem stored_ok {m n : Nat} {s i v : List Int} (hV : Va m n s i v) (hi : i.length ≤ 100000) {r c : Nat} (hr : r < m) (hc : c < n) : Ret (sparseref09_Stored (m : Int) (n : Int) s i v (r : Int) (c : Int)) (fun b => b = true ↔ Sd s i r c) := by
  have hls := hV.hd.ls
  obtain ⟨a, ha⟩ : ∃ a, s[c]? = some a := ⟨s[c]'(by omega), by simp [show c < s.length by omega]⟩
  obtain ⟨b, hb⟩ : ∃ b, s[c + 1]? = some b := ⟨s[c + 1]'(by omega), by simp [show c + 1 < s.length by omega]⟩
  have hab := hV.mo c a b ha hb
  have h0a := mo_le hV.mo (Nat.zero_le c) hV.hd.s0 ha
  have hsn : s[n]? = some (i.length : Int) := by simpa using hV.hd.sn
  have hbn := mo_le hV.mo (show c + 1 ≤ n by omega) hb hsn
  obtain ⟨a, rfl⟩ := Int.eq_ofNat_of_zero_le h0a
  obtain ⟨b, rfl⟩ := Int.eq_ofNat_of_zero_le (show 0 ≤ b by omega)
  unfold sparseref09_Stored
  have hno : ¬ ((((decide ((r : Int) < 0)) || (decide ((m : Int) ≤ (r : Int)))) || (decide ((c : Int) < 0))) || (decide ((n : Int) ≤ (c : Int)))) = true := by
    simp only [Bool.or_eq_true, decide_eq_true_eq]; omega
  have e1 : getI s (c : Int) = some (a : Int) := ha
  rw [if_neg hno]
  simp only [ret_bind, ret_of e1]
  have hw : wa .i64 (c : Int) 1 = ((c + 1 : Nat) : Int) := wa1 (by have := hV.sz.2.1; omega)
  have e2 : getI s ((c + 1 : Nat) : Int) = some (b : Int) := hb
  refine ret_call (P := fun o => (o = .inr () ∧ Sd s i r c) ∨ (o = .inl () ∧ ¬ Sd s i r c)) ?_ ?_
  · refine ret_loop (b - a) (fun k (t : Int) => t = ((a + k : Nat) : Int) ∧ ∀ q, q < k → i[a + q]? ≠ some (r : Int)) ⟨rfl, fun q hq => by omega⟩ ?_
    rintro k _ hk ⟨rfl, hI⟩
    unfold sparseref09_Stored_l4
    by_cases hkb : a + k < b
    · obtain ⟨x, hx⟩ : ∃ x, i[a + k]? = some x := ⟨i[a + k]'(by omega), by simp [show a + k < i.length by omega]⟩
      have e3 : getI i ((a + k : Nat) : Int) = some x := hx
      have e5 : ((a + k : Nat) : Int) < (b : Int) := by omega
      have hw2 : wa .i64 ((a + k : Nat) : Int) 1 = ((a + (k + 1) : Nat) : Int) := by rw [wa1 (by omega)]; congr 1
      by_cases hxr : x = (r : Int)
      · subst hxr
        simp only [ret_bind, ret_if, ret_get, ret_set, ret_app, ret_mkL, ret_sli, ret_wr, ret_wq, ret_some, vq_l, vq_r, Int.toNat_natCast, if_true, if_false, obs, decide_false, decide_true, Bool.false_eq_true, Bool.not_true, Bool.not_false, not_true_eq_false, not_false_eq_true, true_implies, false_implies, reduceCtorEq, true_and, and_true, false_and, or_false, false_or, implies_true, hw, e2, e3, e5]
        exact ⟨a + k, a, b, ha, hb, by omega, by omega, hx⟩
      · simp only [ret_bind, ret_if, ret_get, ret_set, ret_app, ret_mkL, ret_sli, ret_wr, ret_wq, ret_some, vq_l, vq_r, Int.toNat_natCast, if_true, if_false, obs, decide_false, decide_true, Bool.false_eq_true, Bool.not_true, Bool.not_false, not_true_eq_false, not_false_eq_true, true_implies, false_implies, reduceCtorEq, true_and, and_true, false_and, or_false, false_or, implies_true, hw, e2, e3, e5, hxr, hw2]
        refine ⟨by omega, fun q hq => ?_⟩
        by_cases hqk : q = k
        · subst hqk; rw [hx]; simpa using hxr
        · exact hI q (by omega)
    · have e5 : ¬ ((a + k : Nat) : Int) < (b : Int) := by omega
      simp only [ret_bind, ret_if, ret_get, ret_set, ret_app, ret_mkL, ret_sli, ret_wr, ret_wq, ret_some, vq_l, vq_r, Int.toNat_natCast, if_true, if_false, obs, decide_false, decide_true, Bool.false_eq_true, Bool.not_true, Bool.not_false, not_true_eq_false, not_false_eq_true, true_implies, false_implies, reduceCtorEq, true_and, and_true, false_and, or_false, false_or, implies_true, hw, e2, e5]
      rintro ⟨q, a', b', h1, h2, h3, h4, h5⟩
      rw [ha] at h1; rw [hb] at h2
      obtain rfl := Option.some.inj h1
      obtain rfl := Option.some.inj h2
      exact hI (q - a) (by omega) (by rw [show a + (q - a) = q by omega]; exact h5)
  · rintro o (⟨rfl, h⟩ | ⟨rfl, h⟩)
    · simp only [ret_some]; exact ⟨fun _ => h, fun _ => trivial⟩
    · simp only [ret_some]; exact ⟨fun h' => (by cases h'), fun h' => absurd h' h⟩
end Px
/- A small matrix made from numbers has few entries; entries and stored places tell the same. -/
set_option linter.unusedSimpArgs false
set_option linter.unusedVariables false
namespace Px
open Pu Pl Sx Go M Vc

/-- what a loop that has ended leaves, by an invariant -/
theorem loop_part {τ ρ : Type} {step : τ → Option (τ ⊕ ρ)} {I : τ → Prop} {Post : ρ → Prop} {s : τ} {o : ρ} (h : loop step s = some o) (h0 : I s)
    (hs : ∀ t r, I t → step t = some r → VQ I Post r) : Post o := by
  have key : ∀ (fuel : Nat) (t : τ), I t → loopN step fuel t = some o → Post o := by
    intro fuel
    induction fuel with
    | zero => intro t _ h; simp [loopN] at h
    | succ fuel ih =>
      intro t ht h
      simp only [loopN] at h
      cases hst : step t with
      | none => rw [hst] at h; cases h
      | some r =>
        have hv := hs t r ht hst
        rw [hst] at h
        cases r with
        | inl t' => exact ih t' hv h
        | inr o' => simp only [Option.some.injEq] at h; subst h; exact hv
  exact key FUEL s h0 h

theorem bindE {α β : Type} {m : Option α} {f : α → Option β} {y : β} (h : m.bind f = some y) : ∃ x, m = some x ∧ f x = some y := by
  cases m with
  | none => cases h
  | some x => exact ⟨x, rfl, h⟩

theorem getE {α : Type} {l : List α} {i : Int} {x : α} (h : getI l i = some x) : 0 ≤ i ∧ l[i.toNat]? = some x := by
  cases i with
  | ofNat k => exact ⟨Int.natCast_nonneg k, h⟩
  | negSucc k => cases h
theorem setE {α : Type} {l m : List α} {i : Int} {z : α} (h : setI l i z = some m) : 0 ≤ i ∧ i.toNat < l.length ∧ m = l.set i.toNat z := by
  cases i with
  | ofNat k =>
    simp only [setI] at h
    by_cases hk : k < l.length
    · rw [if_pos hk] at h
      exact ⟨Int.natCast_nonneg k, hk, (Option.some.inj h).symm⟩
    · rw [if_neg hk] at h; cases h
  | negSucc k => cases h
theorem appE {α : Type} {l m o : List α} (h : app l m = some o) : o = l ++ m := by
  unfold app at h
  split at h
  · exact (Option.some.inj h).symm
  · cases h

def pos : Int → Bool := fun x => decide (0 < x)
theorem count_set {T : List Int} {k : Nat} (h : k < T.length) (z : Int) : (T.set k z).countP pos ≤ T.countP pos + 1 := by
  rw [List.countP_set (h := h)]
  split <;> split <;> omega
theorem count_take {T : List Int} {k : Nat} : (T.take k).countP pos ≤ T.countP pos := (List.take_sublist k T).countP_le

theorem table_few {E : List (Int × Int × Int)} {m : Int} {T T' : List Int} (hl : E.length ≤ 1000) (h0 : T.countP pos = 0)
    (h : loop (sparseref09_Pack_l1 E m) (T, 0) = some T') : T'.countP pos ≤ E.length := by
  refine loop_part (I := fun (t : List Int × Int) => (0 : Int) ≤ t.2 ∧ t.2 ≤ (E.length : Int) ∧ ((t.1.countP pos : Nat) : Int) ≤ t.2) (Post := fun T' => T'.countP pos ≤ E.length) h ⟨by omega, by simp, by simp only; omega⟩ ?_
  rintro ⟨T, i⟩ r ⟨h1, h2, h3⟩ hs
  simp only at h1 h2 h3
  unfold sparseref09_Pack_l1 at hs
  simp only at hs
  by_cases hi : i < (E.length : Int)
  · rw [if_pos hi] at hs
    obtain ⟨e, _, hs⟩ := bindE hs
    obtain ⟨e', _, hs⟩ := bindE hs
    obtain ⟨T2, g3, hs⟩ := bindE hs
    obtain ⟨_, g4, rfl⟩ := setE g3
    obtain rfl := Option.some.inj hs
    have hw : wa .i64 i 1 = i + 1 := wa_i (by omega) (by omega)
    have := count_set g4 (wa .i64 i 1)
    rw [vq_l, hw]
    rw [hw] at this
    exact ⟨by omega, by simp only; omega, by simp only; omega⟩
  · rw [if_neg hi] at hs
    obtain rfl := Option.some.inj hs
    rw [vq_r]; omega

theorem col_few {E : List (Int × Int × Int)} {m j : Nat} {T i v : List Int} {o : List Int × List Int} (hm : m ≤ 50) (hj : j ≤ 50) (hi : i.length ≤ (T.take (j * m)).countP pos)
    (h : loop (sparseref09_Pack_l13 (m : Int) T (j : Int) E) (i, v, 0) = some o) : o.1.length ≤ (T.take (j * m + m)).countP pos := by
  refine loop_part (I := fun t => ∃ k : Nat, t.2.2 = (k : Int) ∧ k ≤ m ∧ t.1.length ≤ (T.take (j * m + k)).countP pos) (Post := fun o => o.1.length ≤ (T.take (j * m + m)).countP pos) h ⟨0, rfl, by omega, by simpa using hi⟩ ?_
  rintro ⟨i, v, r'⟩ r ⟨k, h1, h2, h3⟩ hs
  simp only at h1 h3
  subst h1
  unfold sparseref09_Pack_l13 at hs
  simp only at hs
  by_cases hk : (k : Int) < (m : Int)
  · rw [if_pos hk] at hs
    have hjm : j * m ≤ 50 * 50 := Nat.mul_le_mul hj hm
    have hw2 : wm .i64 (j : Int) (m : Int) = ((j * m : Nat) : Int) := by rw [wm_i (by rw [← Int.natCast_mul]; omega) (by rw [← Int.natCast_mul]; omega), Int.natCast_mul]
    have hw3 : wa .i64 ((j * m : Nat) : Int) (k : Int) = ((j * m + k : Nat) : Int) := by rw [wa_i (by omega) (by omega)]; omega
    have hw : wa .i64 (k : Int) 1 = ((k + 1 : Nat) : Int) := wa1 (by omega)
    obtain ⟨x, g1, hs⟩ := bindE hs
    rw [hw2, hw3] at g1
    obtain ⟨_, g1⟩ := getE g1
    rw [Int.toNat_natCast] at g1
    have ht : T.take (j * m + (k + 1)) = T.take (j * m + k) ++ [x] := tks g1
    by_cases h0 : (0 : Int) < x
    · rw [if_pos h0] at hs
      obtain ⟨i2, g2, hs⟩ := bindE hs
      obtain ⟨_, _, hs⟩ := bindE hs
      obtain ⟨_, _, hs⟩ := bindE hs
      obtain rfl := appE g2
      unfold sparseref09_Pack_j14 at hs
      obtain rfl := Option.some.inj hs
      rw [vq_l]
      refine ⟨k + 1, hw, by omega, ?_⟩
      rw [ht, List.countP_append, List.length_append]
      simp [pos, h0, h3]
    · rw [if_neg h0] at hs
      unfold sparseref09_Pack_j14 at hs
      obtain rfl := Option.some.inj hs
      rw [vq_l]
      refine ⟨k + 1, hw, by omega, ?_⟩
      rw [ht, List.countP_append]
      simp only
      omega
  · rw [if_neg hk] at hs
    obtain rfl := Option.some.inj hs
    obtain rfl : k = m := by omega
    rw [vq_r]; exact h3

theorem pack_few {E : List (Int × Int × Int)} {m n : Nat} (hm : m ≤ 50) (hn : n ≤ 50) (hl : E.length ≤ 1000) {o : Int × Int × List Int × List Int × List Int}
    (h : sparseref09_Pack (m : Int) (n : Int) E = some o) : o.2.2.2.1.length ≤ E.length := by
  have hmn : m * n ≤ 50 * 50 := Nat.mul_le_mul hm hn
  have hw2 : wm .i64 (m : Int) (n : Int) = ((m * n : Nat) : Int) := by rw [wm_i (by rw [← Int.natCast_mul]; omega) (by rw [← Int.natCast_mul]; omega), Int.natCast_mul]
  unfold sparseref09_Pack at h
  rw [hw2, bindS (mkL_nat 0 (m * n) (by omega))] at h
  obtain ⟨T, t1, h⟩ := bindE h
  have hT := table_few hl (by simp [List.countP_replicate, pos]) t1
  obtain ⟨⟨s, i, v⟩, t2, h⟩ := bindE h
  have hi : i.length ≤ T.countP pos := by
    refine loop_part (I := fun t => ∃ k : Nat, t.2.2.2 = (k : Int) ∧ k ≤ n ∧ t.2.1.length ≤ (T.take (k * m)).countP pos) (Post := fun o => o.2.1.length ≤ T.countP pos) t2 ⟨0, rfl, by omega, by simp⟩ ?_
    rintro ⟨s, i, v, r'⟩ r ⟨k, h1, h2, h3⟩ hs
    simp only at h1 h3
    subst h1
    unfold sparseref09_Pack_l10 at hs
    simp only at hs
    by_cases hk : (k : Int) < (n : Int)
    · rw [if_pos hk] at hs
      obtain ⟨⟨i2, v2⟩, g1, hs⟩ := bindE hs
      obtain ⟨s2, _, hs⟩ := bindE hs
      obtain rfl := Option.some.inj hs
      rw [vq_l]
      refine ⟨k + 1, wa1 (by omega), by omega, ?_⟩
      rw [Nat.succ_mul]
      exact col_few hm (by omega) h3 g1
    · rw [if_neg hk] at hs
      obtain rfl := Option.some.inj hs
      rw [vq_r]
      exact Nat.le_trans h3 count_take
  obtain rfl := Option.some.inj h
  simp only
  omega

theorem made_few {m n : Nat} (hm : m ≤ 50) (hn : n ≤ 50) {l : List Int} (hl : l.length ≤ 60) {o : Int × Int × List Int × List Int × List Int}
    (h : sparsemake_Matrix (m : Int) (n : Int) l = some o) : o.2.2.2.1.length ≤ 20 := by
  unfold sparsemake_Matrix at h
  obtain ⟨E, t1, h⟩ := bindE h
  obtain ⟨o', t2, h⟩ := bindE h
  have hE : E.length ≤ 20 := by
    refine loop_part (I := fun t => t.2 = ((3 * t.1.length : Nat) : Int) ∧ 3 * t.1.length ≤ l.length) (Post := fun E => E.length ≤ 20) t1 ⟨rfl, by simp⟩ ?_
    rintro ⟨E, i⟩ r ⟨h1, h2⟩ hs
    simp only at h1 h2
    subst h1
    unfold sparsemake_Matrix_l5 at hs
    simp only at hs
    have hw2 : wa .i64 ((3 * E.length : Nat) : Int) 2 = ((3 * E.length + 2 : Nat) : Int) := by rw [wa_i (by omega) (by omega)]; omega
    have hw3 : wa .i64 ((3 * E.length : Nat) : Int) 3 = ((3 * (E.length + 1) : Nat) : Int) := by rw [wa_i (by omega) (by omega)]; omega
    split at hs
    · rename_i hc
      simp only [Bool.and_eq_true, decide_eq_true_eq] at hc
      rw [hw2] at hc
      obtain ⟨_, _, hs⟩ := bindE hs
      obtain ⟨_, _, hs⟩ := bindE hs
      obtain ⟨_, _, hs⟩ := bindE hs
      obtain ⟨_, _, hs⟩ := bindE hs
      obtain ⟨_, _, hs⟩ := bindE hs
      obtain ⟨_, _, hs⟩ := bindE hs
      obtain ⟨E2, g2, hs⟩ := bindE hs
      obtain rfl := appE g2
      obtain rfl := Option.some.inj hs
      rw [vq_l]
      simp only [List.length_append, List.length_singleton]
      exact ⟨hw3, by omega⟩
    · obtain rfl := Option.some.inj hs
      rw [vq_r]; omega
  have := pack_few hm hn (by omega) t2
  obtain rfl := Option.some.inj h
  simp only
  omega

/-! ### entries -/
/-- entry q of l lies at place q of the matrix -/
def At (s i v : List Int) (l : List En3) : Prop := ∀ (q : Nat) (e : En3), l[q]? = some e → i[q]? = some e.1 ∧ v[q]? = some e.2.2 ∧ ∃ (c : Nat) (a b : Int), e.2.1 = (c : Int) ∧ s[c]? = some a ∧ s[c + 1]? = some b ∧ a ≤ (q : Int) ∧ (q : Int) < b
theorem at_snoc {s i v : List Int} {l : List En3} {e : En3} (h : At s i v l) (h1 : i[l.length]? = some e.1) (h2 : v[l.length]? = some e.2.2) {c : Nat} {a b : Int} (h3 : e.2.1 = (c : Int)) (h4 : s[c]? = some a) (h5 : s[c + 1]? = some b) (h6 : a ≤ (l.length : Int)) (h7 : (l.length : Int) < b) : At s i v (l ++ [e]) := by
  intro q e' hq
  by_cases hl : q < l.length
  · rw [List.getElem?_append_left hl] at hq
    exact h q e' hq
  · rw [List.getElem?_append_right (by omega)] at hq
    have hq0 : q = l.length := by
      have := (List.getElem?_eq_some_iff.1 hq).1
      simp at this; omega
    subst hq0
    simp at hq
    subst hq
    exact ⟨h1, h2, c, a, b, h3, h4, h5, h6, h7⟩

theorem entries_at {m n : Nat} {s i v : List Int} (h : Va m n s i v) {l : List En3} (he : matrix_entries (m : Int) (n : Int) s i v = some l) : At s i v l ∧ l.length = i.length := by
  unfold matrix_entries at he
  obtain ⟨l', t1, he⟩ := bindE he
  obtain rfl := Option.some.inj he
  have hls := h.hd.ls
  have hn := h.sz.2.1
  have hi := h.sz.2.2
  have hsn : s[n]? = some (i.length : Int) := by simpa using h.hd.sn
  refine loop_part (I := fun t => ∃ k : Nat, t.2 = (k : Int) ∧ k ≤ n ∧ s[k]? = some (t.1.length : Int) ∧ At s i v t.1) (Post := fun l => At s i v l ∧ l.length = i.length) t1 ⟨0, rfl, by omega, by simpa using h.hd.s0, fun q e hq => by simp at hq⟩ ?_
  rintro ⟨l, j⟩ r ⟨k, h1, h2, h3, h4⟩ hs
  simp only at h1 h3 h4
  subst h1
  unfold matrix_entries_l3 at hs
  simp only at hs
  by_cases hk : (k : Int) < (n : Int)
  · rw [if_pos hk] at hs
    obtain ⟨a, g1, hs⟩ := bindE hs
    obtain ⟨_, g1⟩ := getE g1
    rw [Int.toNat_natCast, h3] at g1
    obtain rfl := Option.some.inj g1
    obtain ⟨l2, g2, hs⟩ := bindE hs
    obtain rfl := Option.some.inj hs
    have hw : wa .i64 (k : Int) 1 = ((k + 1 : Nat) : Int) := wa1 (by omega)
    rw [vq_l]
    obtain ⟨b, hb⟩ : ∃ b, s[k + 1]? = some b := ⟨s[k + 1]'(by omega), by simp [show k + 1 < s.length by omega]⟩
    have hab := h.mo k _ b h3 hb
    have hbn := mo_le h.mo (show k + 1 ≤ n by omega) hb hsn
    have : (l2.length : Int) = b ∧ At s i v l2 := by
      refine loop_part (I := fun t => t.2 = (t.1.length : Int) ∧ l.length ≤ t.1.length ∧ (t.1.length : Int) ≤ b ∧ At s i v t.1) (Post := fun l2 => (l2.length : Int) = b ∧ At s i v l2) g2 ⟨rfl, by simp, hab, h4⟩ ?_
      rintro ⟨l3, q⟩ r ⟨k1, k2, k3, k4⟩ hs
      simp only at k1 k2 k3 k4
      subst k1
      unfold matrix_entries_l4 at hs
      simp only at hs
      rw [hw] at hs
      obtain ⟨b', f1, hs⟩ := bindE hs
      obtain ⟨_, f1⟩ := getE f1
      rw [Int.toNat_natCast, hb] at f1
      obtain rfl := Option.some.inj f1
      by_cases hq : (l3.length : Int) < b
      · rw [if_pos hq] at hs
        obtain ⟨x, f2, hs⟩ := bindE hs
        obtain ⟨y, f3, hs⟩ := bindE hs
        obtain ⟨l4, f4, hs⟩ := bindE hs
        obtain rfl := appE f4
        obtain rfl := Option.some.inj hs
        obtain ⟨_, f2⟩ := getE f2
        obtain ⟨_, f3⟩ := getE f3
        rw [Int.toNat_natCast] at f2 f3
        rw [vq_l]
        simp only [List.length_append, List.length_singleton]
        exact ⟨wa1 (by omega), by omega, by omega, at_snoc k4 f2 f3 rfl h3 hb (by omega) hq⟩
      · rw [if_neg hq] at hs
        obtain rfl := Option.some.inj hs
        rw [vq_r]; exact ⟨by omega, k4⟩
    exact ⟨k + 1, hw, by omega, by rw [hb, this.1], this.2⟩
  · rw [if_neg hk] at hs
    obtain rfl := Option.some.inj hs
    obtain rfl : k = n := by omega
    rw [h3] at hsn
    have := Option.some.inj hsn
    rw [vq_r]; exact ⟨h4, by omega⟩

theorem sd_en {m n : Nat} {s i v : List Int} (h : Va m n s i v) {l : List En3} (hA : At s i v l) (hl : l.length = i.length) {r c : Nat} : Sd s i r c ↔ En l r c := by
  constructor
  · rintro ⟨k, a, b, h1, h2, h3, h4, h5⟩
    have hk := (List.getElem?_eq_some_iff.1 h5).1
    obtain ⟨e, he⟩ : ∃ e, l[k]? = some e := ⟨l[k]'(by omega), by simp [show k < l.length by omega]⟩
    obtain ⟨g1, g2, c', a', b', g3, g4, g5, g6, g7⟩ := hA k e he
    rw [h5] at g1
    have hc : c' = c := by
      by_cases h1' : c' < c
      · have := mo_le h.mo (show c' + 1 ≤ c by omega) g5 h1
        omega
      · by_cases h2' : c < c'
        · have := mo_le h.mo (show c + 1 ≤ c' by omega) h2 g4
          omega
        · omega
    subst hc
    exact ⟨e, mem_get he, (Option.some.inj g1).symm, g3⟩
  · rintro ⟨e, he, h1, h2⟩
    obtain ⟨q, hq⟩ := List.mem_iff_getElem?.1 he
    obtain ⟨g1, g2, c', a', b', g3, g4, g5, g6, g7⟩ := hA q e hq
    obtain rfl : c' = c := by omega
    exact ⟨q, a', b', g4, g5, g6, g7, by rw [g1, h1]⟩
end Px
/- Building a matrix of few entries at different positions. -/
set_option linter.unusedSimpArgs false
set_option linter.unusedVariables false
namespace Px
open Pu Pw Pl Sx Go M Vc

/-- entries in columns before c -/
def cnt (o : List En3) (c : Nat) : Nat := o.countP fun e => decide (e.2.1 < (c : Int))
/-- entries in column c -/
def ccol (o : List En3) (c : Nat) : Nat := o.countP fun e => decide (e.2.1 = (c : Int))
theorem cnt_succ (o : List En3) (c : Nat) : cnt o (c + 1) = cnt o c + ccol o c := by
  unfold cnt ccol
  induction o with
  | nil => rfl
  | cons e o ih =>
    simp only [List.countP_cons, ih, decide_eq_true_eq]
    by_cases h1 : e.2.1 < (c : Int)
    · rw [if_pos h1, if_pos (by omega), if_neg (by omega)]; omega
    · by_cases h2 : e.2.1 = (c : Int)
      · rw [if_neg h1, if_pos (by omega), if_pos h2]; omega
      · rw [if_neg h1, if_neg (by omega), if_neg h2]; omega
theorem cnt_le {o : List En3} {c c' : Nat} (h : c ≤ c') : cnt o c ≤ cnt o c' := by
  induction c' with
  | zero => rw [show c = 0 by omega]; exact Nat.le_refl _
  | succ c' ih =>
    by_cases hc : c = c' + 1
    · rw [hc]; exact Nat.le_refl _
    · have := ih (by omega); rw [cnt_succ]; omega
theorem cnt_all {o : List En3} {n : Nat} (h : ∀ e, e ∈ o → e.2.1 < (n : Int)) : cnt o n = o.length := by
  unfold cnt
  rw [List.countP_eq_length]
  intro e he; simpa using h e he
theorem cnt_none {o : List En3} {c : Nat} (h : ∀ e, e ∈ o → (c : Int) ≤ e.2.1) : cnt o c = 0 := by
  unfold cnt
  rw [List.countP_eq_zero]
  intro e he; have := h e he; simp; omega
theorem cnt_lt {o : List En3} (hs : o.Pairwise fun a b => a.2.1 ≤ b.2.1) (c : Nat) : ∀ {q : Nat} {e : En3}, o[q]? = some e → (q < cnt o c ↔ e.2.1 < (c : Int)) := by
  induction o with
  | nil => intro q e h; simp at h
  | cons x o ih =>
    intro q e h
    obtain ⟨h1, h2⟩ := List.pairwise_cons.1 hs
    by_cases hx : x.2.1 < (c : Int)
    · have e1 : cnt (x :: o) c = cnt o c + 1 := by unfold cnt; rw [List.countP_cons, if_pos (by simpa using hx)]
      cases q with
      | zero => simp at h; subst h; rw [e1]; exact ⟨fun _ => hx, fun _ => by omega⟩
      | succ q =>
        simp only [List.getElem?_cons_succ] at h
        rw [e1, ← ih h2 h]; omega
    · have e0 : cnt (x :: o) c = 0 := cnt_none (fun e he => by
        rcases List.mem_cons.1 he with rfl | he
        · omega
        · have := h1 e he; omega)
      rw [e0]
      have : x.2.1 ≤ e.2.1 := by
        cases q with
        | zero => simp at h; subst h; exact Int.le_refl _
        | succ q => simp only [List.getElem?_cons_succ] at h; exact h1 e (mem_get h)
      omega

theorem count_loop {o : List En3} {m n : Nat} (hn : n ≤ 50) (hl : o.length ≤ 20) (hB : ∀ e, e ∈ o → Bd m n e) :
    Ret (loop (matrix_build_l3 o) (List.replicate (n + 1) 0, [], [], 0)) (fun t => t.1.length = n + 1 ∧ t.1[0]? = some 0 ∧ (∀ c, c < n → t.1[c + 1]? = some (ccol o c : Int)) ∧ t.2.1 = o.map (·.1) ∧ t.2.2 = o.map (·.2.2)) := by
  refine ret_loop o.length (fun k (t : List Int × List Int × List Int × Int) => t.2.2.2 = k ∧ t.1.length = n + 1 ∧ t.1[0]? = some 0 ∧ (∀ c, c < n → t.1[c + 1]? = some (ccol (o.take k) c : Int)) ∧ t.2.1 = (o.take k).map (·.1) ∧ t.2.2.1 = (o.take k).map (·.2.2)) ⟨rfl, by simp, by simp, fun c hc => by simp [hc, ccol], by simp, by simp⟩ ?_
  rintro k ⟨s, i, v, k'⟩ hk ⟨rfl, h1, h2, h3, h4, h5⟩
  simp only at h1 h2 h3 h4 h5
  subst h4 h5
  unfold matrix_build_l3
  by_cases hkl : k < o.length
  · obtain ⟨e, he⟩ : ∃ e, o[k]? = some e := ⟨o[k], by simp [hkl]⟩
    obtain ⟨hr, hc⟩ := hB e (mem_get he)
    obtain ⟨c, h6⟩ := Int.eq_ofNat_of_zero_le hc.1
    have e1 : getI o (k : Int) = some e := he
    have e5 : (k : Int) < (o.length : Int) := by omega
    have hw : wa .i64 (k : Int) 1 = ((k + 1 : Nat) : Int) := wa1 (by omega)
    have hw2 : wa .i64 (c : Int) 1 = ((c + 1 : Nat) : Int) := wa1 (by omega)
    have hcn : c < n := by omega
    have h7 := h3 c hcn
    have e2 : getI s ((c + 1 : Nat) : Int) = some (ccol (o.take k) c : Int) := h7
    have hle : ccol (o.take k) c ≤ 20 := Nat.le_trans List.countP_le_length (by simp; omega)
    have hw3 : wa .i64 (ccol (o.take k) c : Int) 1 = ((ccol (o.take k) c + 1 : Nat) : Int) := wa1 (by omega)
    have ht := tks he
    simp only [ret_bind, ret_if, ret_get, ret_set, ret_app, ret_mkL, ret_sli, ret_wr, ret_wq, ret_some, vq_l, vq_r, Int.toNat_natCast, if_true, if_false, obs, decide_false, decide_true, Bool.false_eq_true, Bool.not_true, Bool.not_false, not_true_eq_false, not_false_eq_true, true_implies, false_implies, reduceCtorEq, true_and, and_true, false_and, or_false, false_or, implies_true, e1, e2, e5, hw, h6, hw2, hw3, List.length_map, List.length_take, List.length_singleton]
    refine ⟨by omega, by omega, by omega, by omega, hkl, by simp [h1], by rw [List.getElem?_set, if_neg (by omega)]; exact h2, fun c' hc' => ?_, by rw [ht]; simp, by rw [ht]; simp⟩
    rw [List.getElem?_set, ht]
    have hcc : ccol (o.take k ++ [e]) c' = ccol (o.take k) c' + if c = c' then 1 else 0 := by
      unfold ccol
      rw [List.countP_append, List.countP_singleton]
      congr 1
      by_cases hcc : c = c'
      · rw [if_pos hcc, if_pos (by simp; omega)]
      · rw [if_neg hcc, if_neg (by simp; omega)]
    rw [hcc]
    by_cases hcc : c = c'
    · subst hcc; rw [if_pos rfl, if_pos (by omega), if_pos rfl]
    · rw [if_neg (by omega), if_neg hcc, h3 c' hc']; rfl
  · have e5 : ¬ (k : Int) < (o.length : Int) := by omega
    have ht : o.take k = o := take_all (by omega)
    rw [ht] at h3
    simp only [ret_bind, ret_if, ret_get, ret_set, ret_app, ret_mkL, ret_sli, ret_wr, ret_wq, ret_some, vq_l, vq_r, Int.toNat_natCast, if_true, if_false, obs, decide_false, decide_true, Bool.false_eq_true, Bool.not_true, Bool.not_false, not_true_eq_false, not_false_eq_true, true_implies, false_implies, reduceCtorEq, true_and, and_true, false_and, or_false, false_or, implies_true, e5, ht]
    exact ⟨h1, h2, h3⟩

theorem sum_loop {o : List En3} {n : Nat} (hn : n ≤ 50) (hl : o.length ≤ 20) (hc0 : cnt o 0 = 0) {s : List Int} (h1 : s.length = n + 1) (h2 : s[0]? = some 0) (h3 : ∀ c, c < n → s[c + 1]? = some (ccol o c : Int)) :
    Ret (loop (matrix_build_l4 (n : Int)) (s, 0)) (fun s => s.length = n + 1 ∧ ∀ c, c ≤ n → s[c]? = some (cnt o c : Int)) := by
  refine ret_loop n (fun k (t : List Int × Int) => t.2 = k ∧ t.1.length = n + 1 ∧ (∀ c, c ≤ k → t.1[c]? = some (cnt o c : Int)) ∧ ∀ c, k ≤ c → c < n → t.1[c + 1]? = some (ccol o c : Int)) ⟨rfl, h1, fun c hc => by rw [show c = 0 by omega, hc0]; exact h2, fun c _ hc => h3 c hc⟩ ?_
  rintro k ⟨s, k'⟩ hk ⟨rfl, g1, g2, g3⟩
  simp only at g1 g2 g3
  unfold matrix_build_l4
  by_cases hkn : k < n
  · have hw : wa .i64 (k : Int) 1 = ((k + 1 : Nat) : Int) := wa1 (by omega)
    have e1 : getI s ((k + 1 : Nat) : Int) = some (ccol o k : Int) := g3 k (Nat.le_refl _) hkn
    have e2 : getI s (k : Int) = some (cnt o k : Int) := g2 k (Nat.le_refl _)
    have e5 : (k : Int) < (n : Int) := by omega
    have a1 : ccol o k ≤ 20 := Nat.le_trans List.countP_le_length hl
    have a2 : cnt o k ≤ 20 := Nat.le_trans List.countP_le_length hl
    have hw3 : wa .i64 (ccol o k : Int) (cnt o k : Int) = (cnt o (k + 1) : Int) := by rw [wa_i (by omega) (by omega), cnt_succ]; omega
    simp only [ret_bind, ret_if, ret_get, ret_set, ret_app, ret_mkL, ret_sli, ret_wr, ret_wq, ret_some, vq_l, vq_r, Int.toNat_natCast, if_true, if_false, obs, decide_false, decide_true, Bool.false_eq_true, Bool.not_true, Bool.not_false, not_true_eq_false, not_false_eq_true, true_implies, false_implies, reduceCtorEq, true_and, and_true, false_and, or_false, false_or, implies_true, e1, e2, e5, hw, hw3]
    refine ⟨by omega, by omega, hkn, by simp [g1], fun c hc => ?_, fun c hc hc2 => ?_⟩
    · rw [List.getElem?_set]
      by_cases hck : k + 1 = c
      · subst hck; rw [if_pos rfl, if_pos (by omega)]
      · rw [if_neg hck]; exact g2 c (by omega)
    · rw [List.getElem?_set, if_neg (by omega)]; exact g3 c (by omega) hc2
  · have e5 : ¬ (k : Int) < (n : Int) := by omega
    simp only [ret_bind, ret_if, ret_get, ret_set, ret_app, ret_mkL, ret_sli, ret_wr, ret_wq, ret_some, vq_l, vq_r, Int.toNat_natCast, if_true, if_false, obs, decide_false, decide_true, Bool.false_eq_true, Bool.not_true, Bool.not_false, not_true_eq_false, not_false_eq_true, true_implies, false_implies, reduceCtorEq, true_and, and_true, false_and, or_false, false_or, implies_true, e5]
    exact ⟨g1, fun c hc => g2 c (by omega)⟩

def Apart (l : List En3) : Prop := l.Pairwise fun a b => ¬ (a.1 = b.1 ∧ a.2.1 = b.2.1)
theorem lt_apart {l : List En3} (h : l.Pairwise LT) : Apart l := h.imp fun {a b} h => by unfold Pu.LT at h; omega

theorem build_ok {l : List En3} {m n : Nat} (hm : m ≤ 50) (hn : n ≤ 50) (hl : l.length ≤ 20) (hB : ∀ e, e ∈ l → Bd m n e) (hF : ∀ e, e ∈ l → Fn e.2.2 = true) (hA : Apart l) :
    ∃ s i v, matrix_build (m : Int) (n : Int) l = some ((m : Int), (n : Int), s, i, v) ∧ Va m n s i v ∧ Ff v ∧ i.length = l.length ∧ s.length = n + 1 ∧ ∃ o, matrix_entries (m : Int) (n : Int) s i v = some o ∧ o.Perm l ∧ o.Pairwise LT := by
  obtain ⟨o, o1, o2, o3⟩ := sortedE hl
  have hol := o2.length_eq
  have hBo : ∀ e, e ∈ o → Bd m n e := fun e he => hB e (o2.mem_iff.1 he)
  have hAo : Apart o := (o2.pairwise_iff (fun {a b} h h' => h ⟨h'.1.symm, h'.2.symm⟩)).2 hA
  have hLT : o.Pairwise LT := by
    rw [List.pairwise_iff_getElem]
    intro i j hi hj hij
    have a1 := List.pairwise_iff_getElem.1 o3 i j hi hj hij
    have a2 := List.pairwise_iff_getElem.1 hAo i j hi hj hij
    unfold Le at a1; unfold Pu.LT; omega
  have hCol : o.Pairwise fun a b => a.2.1 ≤ b.2.1 := hLT.imp fun {a b} h => by unfold Pu.LT at h; omega
  have hc0 : cnt o 0 = 0 := cnt_none fun e he => by have := (hBo e he).2.1; omega
  have hcn : cnt o n = o.length := cnt_all fun e he => (hBo e he).2.2
  obtain ⟨⟨s0, i, v⟩, t1, s1, s2, s3, s4, s5⟩ := count_loop hn (by omega) hBo
  simp only at s1 s2 s3 s4 s5
  obtain ⟨s, t2, s6, s7⟩ := sum_loop hn (by omega) hc0 s1 s2 s3
  have hil : i.length = o.length := by rw [s4]; simp
  have hvl : v.length = o.length := by rw [s5]; simp
  have key : ∀ (c : Nat) (a b : Int), s[c]? = some a → s[c + 1]? = some b → a = (cnt o c : Int) ∧ b = (cnt o (c + 1) : Int) ∧ c < n := by
    intro c a b ha hb
    have hc : c + 1 < s.length := (List.getElem?_eq_some_iff.1 hb).1
    rw [s7 c (by omega)] at ha
    rw [s7 (c + 1) (by omega)] at hb
    exact ⟨(Option.some.inj ha).symm, (Option.some.inj hb).symm, by omega⟩
  have colOf : ∀ (c q : Nat) (e : En3), o[q]? = some e → cnt o c ≤ q → q < cnt o (c + 1) → e.2.1 = (c : Int) := by
    intro c q e he h1 h2
    have a1 := cnt_lt hCol c he
    have a2 := cnt_lt hCol (c + 1) he
    have a3 := a2.1 h2
    have a4 : ¬ e.2.1 < (c : Int) := fun h => absurd (a1.2 h) (by omega)
    omega
  have hV : Va m n s i v := by
    refine ⟨⟨⟨by omega, by omega⟩, ⟨by omega, by omega⟩, by omega⟩, ⟨by omega, by omega, by rw [s7 0 (by omega), hc0]; rfl, ?_⟩, ?_, ?_⟩
    · rw [show ((n : Int).toNat) = n by omega, s7 n (Nat.le_refl _), hcn, hil]
    · intro c a b ha hb
      obtain ⟨rfl, rfl, hc⟩ := key c a b ha hb
      have := @cnt_le o c (c + 1) (by omega)
      omega
    · intro c a b ha hb k x hak hkb hx
      obtain ⟨rfl, rfl, hc⟩ := key c a b ha hb
      have hk : k < o.length := by have := (List.getElem?_eq_some_iff.1 hx).1; omega
      obtain ⟨e, he⟩ : ∃ e, o[k]? = some e := ⟨o[k], by simp [hk]⟩
      rw [s4, List.getElem?_map, he] at hx
      have hx' := Option.some.inj hx
      simp only at hx'
      have hb1 := (hBo e (mem_get he)).1
      refine ⟨by omega, by omega, fun h2 x' hx2 => ?_⟩
      obtain ⟨e', he'⟩ : ∃ e', o[k - 1]? = some e' := ⟨o[k - 1]'(by omega), by simp [show k - 1 < o.length by omega]⟩
      rw [s4, List.getElem?_map, he'] at hx2
      have hx2' := Option.some.inj hx2
      simp only at hx2'
      have c1 := colOf c k e he (by omega) (by omega)
      have c2 := colOf c (k - 1) e' he' (by omega) (by omega)
      have := List.pairwise_iff_getElem.1 hLT (k - 1) k (by omega) hk (by omega)
      rw [(List.getElem?_eq_some_iff.1 he).2, (List.getElem?_eq_some_iff.1 he').2] at this
      unfold Pu.LT at this
      omega
  have hFv : Ff v := by
    intro f hf
    rw [s5, List.mem_map] at hf
    obtain ⟨e, he, rfl⟩ := hf
    exact hF e (o2.mem_iff.1 he)
  have hent : matrix_entries (m : Int) (n : Int) s i v = some o := by
    obtain ⟨o', g1, g2, g3, g4⟩ := Pw.ents hV (by omega) (check_zero hV hFv (by omega) (by omega))
    unfold matrix_Entries at g1
    rw [bindS (check_zero hV hFv (by omega) (by omega)), if_pos rfl] at g1
    obtain ⟨o2', g5, g6⟩ := bindE g1
    obtain rfl := Option.some.inj g6
    obtain ⟨k1, k2⟩ := entries_at hV g5
    rw [g5]
    congr 1
    apply List.ext_getElem?
    intro q
    by_cases hq : q < o.length
    · obtain ⟨e, he⟩ : ∃ e, o2'[q]? = some e := ⟨o2'[q]'(by omega), by simp [show q < o2'.length by omega]⟩
      obtain ⟨e', he'⟩ : ∃ e', o[q]? = some e' := ⟨o[q], by simp [hq]⟩
      obtain ⟨f1, f2, c, a, b, f3, f4, f5, f6, f7⟩ := k1 q e he
      obtain ⟨rfl, rfl, hc⟩ := key c a b f4 f5
      rw [s4, List.getElem?_map, he'] at f1
      rw [s5, List.getElem?_map, he'] at f2
      have f1' := Option.some.inj f1
      have f2' := Option.some.inj f2
      have f8 := colOf c q e' he' (by omega) (by omega)
      rw [he, he']
      congr 1
      obtain ⟨ea, eb, ec⟩ := e
      obtain ⟨fa, fb, fc⟩ := e'
      simp only at f1' f2' f3 f8
      rw [f1', f2', f3, f8]
    · rw [List.getElem?_eq_none (by omega), List.getElem?_eq_none (by omega)]
  refine ⟨s, i, v, ?_, hV, hFv, by omega, s6, o, hent, o2, hLT⟩
  unfold matrix_build
  rw [show wa .i64 (n : Int) 1 = ((n + 1 : Nat) : Int) from wa1 (by omega), bindS (mkL_nat 0 (n + 1) (by omega)), bindS o1, bindS t1]
  simp only
  rw [bindS t2]
end Px
/- Orders made from numbers. -/
set_option linter.unusedSimpArgs false
set_option linter.unusedVariables false
namespace Px
open Pu Pl Sx Go M Vc

/-- a permutation of 0 to n - 1 -/
structure Pm (l : List Int) (n : Nat) : Prop where
  len : l.length = n
  nd : l.Nodup
  rng : ∀ x, x ∈ l → 0 ≤ x ∧ x < (n : Int)

theorem shuf_step {out left : List Int} {n k : Nat} {at' : Nat} (h1 : out.length = k) (h2 : left.length + k = n) (hnd : (out ++ left).Nodup) (hr : ∀ x, x ∈ out ++ left → 0 ≤ x ∧ x < (n : Int)) (hat : at' < left.length) :
    (out ++ [left[at']]).length = k + 1 ∧ (left.take at' ++ left.drop (at' + 1)).length + (k + 1) = n ∧ ((out ++ [left[at']]) ++ (left.take at' ++ left.drop (at' + 1))).Nodup ∧ ∀ x, x ∈ (out ++ [left[at']]) ++ (left.take at' ++ left.drop (at' + 1)) → 0 ≤ x ∧ x < (n : Int) := by
  have hp : ((out ++ [left[at']]) ++ (left.take at' ++ left.drop (at' + 1))).Perm (out ++ left) := by
    rw [List.append_assoc]
    refine List.Perm.append_left _ ?_
    have h3 : left = left.take at' ++ left[at'] :: left.drop (at' + 1) := by
      rw [List.getElem_cons_drop]; exact (List.take_append_drop at' left).symm
    conv => rhs; rw [h3]
    show (left[at'] :: (left.take at' ++ left.drop (at' + 1))).Perm (left.take at' ++ left[at'] :: left.drop (at' + 1))
    exact List.perm_middle.symm
  refine ⟨by simp [h1], by simp; omega, hp.nodup_iff.2 hnd, fun x hx => hr x (hp.mem_iff.1 hx)⟩

theorem shuf_first {n : Nat} (hn : n ≤ 1000) : Ret (loop (sparsekit_Shuffle_l1 (n : Int)) ([], 0)) (fun left => left = (List.range n).map Int.ofNat) := by
  refine ret_loop n (fun k (t : List Int × Int) => t.2 = k ∧ t.1 = (List.range k).map Int.ofNat) ⟨rfl, rfl⟩ ?_
  rintro k ⟨t, i⟩ hk ⟨rfl, rfl⟩
  unfold sparsekit_Shuffle_l1
  by_cases hkn : k < n
  · have hw : wa .i64 (k : Int) 1 = ((k + 1 : Nat) : Int) := wa1 (by omega)
    have e5 : (k : Int) < (n : Int) := by omega
    simp only [ret_bind, ret_if, ret_get, ret_set, ret_app, ret_mkL, ret_sli, ret_wr, ret_wq, ret_some, vq_l, vq_r, Int.toNat_natCast, if_true, if_false, obs, decide_false, decide_true, Bool.false_eq_true, Bool.not_true, Bool.not_false, not_true_eq_false, not_false_eq_true, true_implies, false_implies, reduceCtorEq, e5, hw]
    exact ⟨by rw [List.length_map, List.length_range, List.length_singleton]; omega, hkn, trivial, by rw [List.range_succ, List.map_append]; rfl⟩
  · have e5 : ¬ (k : Int) < (n : Int) := by omega
    have : k = n := by omega
    subst this
    simp only [ret_bind, ret_if, ret_get, ret_set, ret_app, ret_mkL, ret_sli, ret_wr, ret_wq, ret_some, vq_l, vq_r, Int.toNat_natCast, if_true, if_false, obs, decide_false, decide_true, Bool.false_eq_true, Bool.not_true, Bool.not_false, not_true_eq_false, not_false_eq_true, true_implies, false_implies, reduceCtorEq, e5]

def ShI (n k : Nat) (t : List Int × List Int × Int) : Prop := t.2.2 = (k : Int) ∧ t.2.1.length = k ∧ t.1.length + k = n ∧ (t.2.1 ++ t.1).Nodup ∧ ∀ x, x ∈ t.2.1 ++ t.1 → 0 ≤ x ∧ x < (n : Int)

theorem shuf_key {out left : List Int} {n k : Nat} (hn : n ≤ 1000) (h : ShI n k (left, out, (k : Int))) {at' : Nat} (hat : at' < left.length) (P : List Int → Prop) : Ret (sparsekit_Shuffle_j5 left out (k : Int) (at' : Int)) (VQ (fun t' => k < n ∧ ShI n (k + 1) t') P) := by
  obtain ⟨_, h1, h2, h3, h4⟩ := h
  simp only at h1 h2 h3 h4
  have e6 : getI left (at' : Int) = some left[at'] := getI_lt hat
  have e7 : wa .i64 (at' : Int) 1 = ((at' + 1 : Nat) : Int) := wa1 (by omega)
  have hw : wa .i64 (k : Int) 1 = ((k + 1 : Nat) : Int) := wa1 (by omega)
  obtain ⟨s1, s2, s3, s4⟩ := shuf_step h1 h2 h3 h4 hat
  have hz : (0 : Int).toNat = 0 := rfl
  unfold sparsekit_Shuffle_j5
  simp only [ret_bind, ret_app, ret_sli, ret_some, vq_l, e6, e7, hw, hz, Int.toNat_natCast, List.drop_zero, List.take_length]
  refine ⟨by rw [h1, List.length_singleton]; omega, by omega, by omega, by omega, by omega, by omega, by omega, ?_, by omega, rfl, s1, s2, s3, s4⟩
  rw [List.length_take, List.length_drop]; omega

theorem shuf_loop (l : List Int) {n : Nat} (hn : n ≤ 1000) : Ret (loop (sparsekit_Shuffle_l4 (n : Int) l) ((List.range n).map Int.ofNat, [], 0)) (fun o => Pm o n) := by
  refine ret_loop n (ShI n) ⟨rfl, rfl, by simp, ?_, fun x hx => ?_⟩ ?_
  · rw [List.nil_append, List.nodup_iff_pairwise_ne, List.pairwise_map]
    refine List.Pairwise.imp ?_ (List.nodup_range (n := n))
    intro a b hab hc; exact hab (Int.ofNat.inj hc)
  · simp at hx; obtain ⟨a, h1, h2⟩ := hx; omega
  · rintro k ⟨left, out, i⟩ hk h
    have hi : i = (k : Int) := h.1
    subst hi
    have h2 : left.length + k = n := h.2.2.1
    unfold sparsekit_Shuffle_l4
    by_cases hkn : k < n
    · have e5 : (k : Int) < (n : Int) := by omega
      simp only [ret_if, e5, true_implies, not_true_eq_false, false_implies, and_true]
      refine ⟨fun hl => ?_, fun _ => shuf_key (at' := 0) hn h (by omega) _⟩
      have hkl : k < l.length := by omega
      rw [bindS (getI_lt hkl), ret_bind]
      obtain ⟨z, p1, p2⟩ := place_ok l[k] left.length (by omega) (by omega)
      rw [ret_of p1]
      exact shuf_key hn h p2 _
    · have e5 : ¬ (k : Int) < (n : Int) := by omega
      have hl0 : left = [] := List.eq_nil_of_length_eq_zero (by omega)
      subst hl0
      simp only [ret_if, e5, false_implies, not_false_eq_true, true_implies, true_and, ret_some, vq_r]
      obtain ⟨_, h1, _, h3, h4⟩ := h
      simp only [List.append_nil] at h1 h3 h4
      exact ⟨by omega, h3, h4⟩

theorem shuffle_ok (l : List Int) {n : Nat} (hn : n ≤ 1000) : Ret (sparsekit_Shuffle l (n : Int)) (fun o => Pm o n) := by
  unfold sparsekit_Shuffle
  rw [ret_bind]
  refine ret_call (shuf_first hn) ?_
  rintro _ rfl
  rw [ret_bind]
  exact ret_call (shuf_loop l hn) (fun o ho => by rw [ret_some]; exact ho)


/-- no numbers: nothing is moved -/
theorem shuffle_nil {n : Nat} (hn : n ≤ 1000) {o : List Int} (h : sparsekit_Shuffle [] (n : Int) = some o) : o = (List.range n).map Int.ofNat := by
  unfold sparsekit_Shuffle at h
  obtain ⟨left, h1, h⟩ := bindE h
  have hl : left = (List.range n).map Int.ofNat := by
    obtain ⟨left', h2, h3⟩ := shuf_first hn
    rw [h1] at h2
    obtain rfl := Option.some.inj h2
    exact h3
  subst hl
  obtain ⟨o', h2, h⟩ := bindE h
  obtain rfl := Option.some.inj h
  generalize hR : (List.range n).map Int.ofNat = R at *
  have hRl : R.length = n := by rw [← hR]; simp
  refine loop_part (I := fun t => ∃ k : Nat, t.2.2 = (k : Int) ∧ k ≤ n ∧ t.1 = R.drop k ∧ t.2.1 = R.take k) (Post := fun o => o = R) h2 ⟨0, rfl, by omega, rfl, rfl⟩ ?_
  rintro ⟨left, out, i⟩ r ⟨k, e1, e2, e3, e4⟩ hs
  simp only at e1 e3 e4
  subst e1 e3 e4
  unfold sparsekit_Shuffle_l4 at hs
  simp only at hs
  by_cases hk : (k : Int) < (n : Int)
  · rw [if_pos hk, if_neg (show ¬ (k : Int) < (([] : List Int).length : Int) by simp)] at hs
    unfold sparsekit_Shuffle_j5 at hs
    obtain ⟨x, f1, hs⟩ := bindE hs
    obtain ⟨a, f2, hs⟩ := bindE hs
    obtain ⟨b, f3, hs⟩ := bindE hs
    obtain ⟨c, f4, hs⟩ := bindE hs
    obtain ⟨d, f5, hs⟩ := bindE hs
    obtain rfl := Option.some.inj hs
    obtain ⟨_, f1⟩ := getE f1
    obtain rfl := appE f2
    obtain rfl := appE f5
    obtain ⟨rfl, _⟩ := sli_some f3
    obtain ⟨rfl, _⟩ := sli_some f4
    have hw : wa .i64 0 1 = 1 := by decide
    rw [vq_l]
    have hx : R[k]? = some x := by
      have : (R.drop k)[0]? = some x := f1
      rw [List.getElem?_drop] at this
      simpa using this
    refine ⟨k + 1, wa1 (by omega), by omega, ?_, ?_⟩
    · show subL (R.drop k) 0 0 ++ subL (R.drop k) (wa .i64 0 1) ((R.drop k).length : Int) = R.drop (k + 1)
      have a1 : subL (R.drop k) 0 0 = [] := rfl
      have a2 : subL (R.drop k) 1 ((R.drop k).length : Int) = R.drop (k + 1) := by
        unfold subL
        rw [Int.toNat_natCast, List.take_length, show (1 : Int).toNat = 1 from rfl, List.drop_drop]
      rw [hw, a1, a2, List.nil_append]
    · simp only
      rw [List.take_add_one, hx]; rfl
  · rw [if_neg hk] at hs
    obtain rfl := Option.some.inj hs
    rw [vq_r]
    exact take_all (by omega)
end Px
/- Places of an order; permuting a matrix; the graph of a normal matrix. -/
set_option linter.unusedSimpArgs false
set_option linter.unusedVariables false
namespace Px
open Pu Pl Sx Go M Vc

theorem nodup_le : ∀ (n : Nat) (l : List Int), l.Nodup → (∀ x, x ∈ l → 0 ≤ x ∧ x < (n : Int)) → l.length ≤ n := by
  intro n
  induction n with
  | zero =>
    intro l _ h
    cases l with
    | nil => simp
    | cons x l => have := h x (by simp); omega
  | succ n ih =>
    intro l hd h
    by_cases hn : (n : Int) ∈ l
    · have h1 := ih (l.erase (n : Int)) (hd.erase _) (fun x hx => by
        have h2 := (hd.mem_erase_iff).1 hx
        have := h x h2.2
        have := h2.1
        omega)
      rw [List.length_erase_of_mem hn] at h1
      omega
    · have h1 := ih l hd (fun x hx => by
        have := h x hx
        have : x ≠ (n : Int) := fun e => hn (e ▸ hx)
        omega)
      omega
theorem pm_onto {l : List Int} {n : Nat} (h : Pm l n) {y : Nat} (hy : y < n) : ∃ k : Nat, l[k]? = some (y : Int) := by
  refine Classical.byContradiction fun hno => ?_
  have hnm : (y : Int) ∉ l := fun hm => hno (List.mem_iff_getElem?.1 hm)
  have h1 := nodup_le n ((y : Int) :: l) (List.nodup_cons.2 ⟨hnm, h.nd⟩) (fun x hx => by
    rcases List.mem_cons.1 hx with rfl | hx
    · omega
    · exact h.rng x hx)
  rw [List.length_cons, h.len] at h1
  omega

theorem places_ok {l : List Int} {n : Nat} (hn : n ≤ 1000) (h : Pm l n) : ∃ r, matrix_places l (n : Int) = some (r, 0) ∧ r.length = n ∧ ∀ (k : Nat) (x : Int), l[k]? = some x → r[x.toNat]? = some (k : Int) := by
  have hlen := h.len
  have h1 : loop (matrix_places_l1 (List.replicate n 0)) (List.replicate n 0, 0) = some (List.replicate n (-1)) := by
    refine Ret.eq ?_
    refine ret_loop n (fun k (t : List Int × Int) => t.2 = k ∧ t.1.length = n ∧ ∀ u, u < k → t.1[u]? = some (-1)) ⟨rfl, by simp, fun u hu => by omega⟩ ?_
    rintro k ⟨t, i⟩ hk ⟨rfl, g1, g2⟩
    simp only at g1 g2
    unfold matrix_places_l1
    have hrl : (List.replicate n (0 : Int)).length = n := by simp
    by_cases hkn : k < n
    · have hw : wa .i64 (k : Int) 1 = ((k + 1 : Nat) : Int) := wa1 (by omega)
      have e5 : (k : Int) < (n : Int) := by omega
      simp only [ret_bind, ret_if, ret_get, ret_set, ret_app, ret_mkL, ret_sli, ret_wr, ret_wq, ret_some, vq_l, vq_r, Int.toNat_natCast, if_true, if_false, obs, decide_false, decide_true, Bool.false_eq_true, Bool.not_true, Bool.not_false, not_true_eq_false, not_false_eq_true, true_implies, false_implies, reduceCtorEq, hrl, e5, hw]
      refine ⟨by omega, by omega, hkn, trivial, by simp [g1], fun u hu => ?_⟩
      rw [List.getElem?_set]
      by_cases hku : k = u
      · rw [if_pos hku, if_pos (by omega)]
      · rw [if_neg hku]; exact g2 u (by omega)
    · have e5 : ¬ (k : Int) < (n : Int) := by omega
      simp only [ret_bind, ret_if, ret_get, ret_set, ret_app, ret_mkL, ret_sli, ret_wr, ret_wq, ret_some, vq_l, vq_r, Int.toNat_natCast, if_true, if_false, obs, decide_false, decide_true, Bool.false_eq_true, Bool.not_true, Bool.not_false, not_true_eq_false, not_false_eq_true, true_implies, false_implies, reduceCtorEq, hrl, e5]
      apply List.ext_getElem?
      intro u
      by_cases hu : u < n
      · rw [g2 u (by omega)]; simp [hu]
      · rw [List.getElem?_eq_none (by omega), List.getElem?_eq_none (by simp; omega)]
  have h2 : loop (matrix_places_l2 l (n : Int)) 0 = some (.inl ()) := by
    refine Ret.eq ?_
    refine ret_loop l.length (fun k (t : Int) => t = (k : Int)) rfl ?_
    rintro k _ hk rfl
    unfold matrix_places_l2 matrix_within
    by_cases hkl : k < l.length
    · have hx := h.rng _ (List.getElem_mem hkl)
      have e1 : getI l (k : Int) = some l[k] := getI_lt hkl
      have e5 : (k : Int) < (l.length : Int) := by omega
      have hw : wa .i64 (k : Int) 1 = ((k + 1 : Nat) : Int) := wa1 (by omega)
      have hw2 : ws .i64 (n : Int) 1 = (n : Int) - 1 := ws_i (by omega) (by omega)
      have e6 : (decide (0 ≤ l[k]) && decide (l[k] ≤ (n : Int) - 1)) = true := by simp; omega
      simp only [ret_bind, ret_if, ret_get, ret_set, ret_app, ret_mkL, ret_sli, ret_wr, ret_wq, ret_some, vq_l, vq_r, Int.toNat_natCast, if_true, if_false, obs, decide_false, decide_true, Bool.false_eq_true, Bool.not_true, Bool.not_false, not_true_eq_false, not_false_eq_true, true_implies, false_implies, reduceCtorEq, e1, e5, hw2, e6, hw]
      exact ⟨by omega, trivial⟩
    · have e5 : ¬ (k : Int) < (l.length : Int) := by omega
      simp only [ret_bind, ret_if, ret_get, ret_set, ret_app, ret_mkL, ret_sli, ret_wr, ret_wq, ret_some, vq_l, vq_r, Int.toNat_natCast, if_true, if_false, obs, decide_false, decide_true, Bool.false_eq_true, Bool.not_true, Bool.not_false, not_true_eq_false, not_false_eq_true, true_implies, false_implies, reduceCtorEq, e5]
  have h3 : Ret (loop (matrix_places_l3 l) (List.replicate n (-1), 0)) (fun o => ∃ r, o = .inl r ∧ r.length = n ∧ ∀ (k : Nat) (x : Int), l[k]? = some x → r[x.toNat]? = some (k : Int)) := by
    refine ret_loop l.length (fun k (t : List Int × Int) => t.2 = k ∧ t.1.length = n ∧ (∀ (j : Nat) (x : Int), j < k → l[j]? = some x → t.1[x.toNat]? = some (j : Int)) ∧ ∀ (j : Nat) (x : Int), k ≤ j → l[j]? = some x → t.1[x.toNat]? = some (-1)) ⟨rfl, by simp, fun j x hj => by omega, fun j x _ hx => by
      have := h.rng x (mem_get hx)
      simp [show x.toNat < n by omega]⟩ ?_
    rintro k ⟨t, i⟩ hk ⟨rfl, g1, g2, g3⟩
    simp only at g1 g2 g3
    unfold matrix_places_l3
    by_cases hkl : k < l.length
    · obtain ⟨x, hx⟩ : ∃ x, l[k]? = some x := ⟨l[k], by simp [hkl]⟩
      have hxr := h.rng x (mem_get hx)
      have e1 : getI l (k : Int) = some x := hx
      have e2 : getI t x = some (-1) := getI_of hxr.1 (g3 k x (Nat.le_refl _) hx)
      have e5 : (k : Int) < (l.length : Int) := by omega
      have hw : wa .i64 (k : Int) 1 = ((k + 1 : Nat) : Int) := wa1 (by omega)
      have e6 : ¬ (0 : Int) ≤ -1 := by omega
      simp only [ret_bind, ret_if, ret_get, ret_set, ret_app, ret_mkL, ret_sli, ret_wr, ret_wq, ret_some, vq_l, vq_r, Int.toNat_natCast, if_true, if_false, obs, decide_false, decide_true, Bool.false_eq_true, Bool.not_true, Bool.not_false, not_true_eq_false, not_false_eq_true, true_implies, false_implies, reduceCtorEq, e1, e2, e5, e6, hw]
      have hinj : ∀ (j : Nat) (y : Int), j ≠ k → l[j]? = some y → x.toNat ≠ y.toNat := by
        intro j y hj hy he
        have hyr := h.rng y (mem_get hy)
        have hxy : y = x := by omega
        obtain ⟨a1, a2⟩ := List.getElem?_eq_some_iff.1 hx
        obtain ⟨b1, b2⟩ := List.getElem?_eq_some_iff.1 hy
        exact hj (nodup_inj h.nd (hi := b1) (hj := a1) (by rw [a2, b2, hxy]))
      refine ⟨by omega, by omega, hkl, trivial, by simp [g1], fun j y hj hy => ?_, fun j y hj hy => ?_⟩
      · rw [List.getElem?_set]
        by_cases hjk : j = k
        · subst hjk
          rw [hx] at hy
          obtain rfl := Option.some.inj hy
          rw [if_pos rfl, if_pos (by omega)]
        · rw [if_neg (hinj j y hjk hy)]; exact g2 j y (by omega) hy
      · rw [List.getElem?_set, if_neg (hinj j y (by omega) hy)]
        exact g3 j y (by omega) hy
    · have e5 : ¬ (k : Int) < (l.length : Int) := by omega
      simp only [ret_bind, ret_if, ret_get, ret_set, ret_app, ret_mkL, ret_sli, ret_wr, ret_wq, ret_some, vq_l, vq_r, Int.toNat_natCast, if_true, if_false, obs, decide_false, decide_true, Bool.false_eq_true, Bool.not_true, Bool.not_false, not_true_eq_false, not_false_eq_true, true_implies, false_implies, reduceCtorEq, e5]
      exact ⟨t, rfl, g1, fun j x hx => g2 j x (by have := (List.getElem?_eq_some_iff.1 hx).1; omega) hx⟩
  obtain ⟨_, h4, r, rfl, h5, h6⟩ := h3
  refine ⟨r, ?_, h5, h6⟩
  unfold matrix_places
  rw [bindS (mkL_nat 0 n (by omega)), bindS h1, bindS h2]
  simp only
  rw [bindS h4]

/-- the place of x -/
def pl (r : List Int) (x : Int) : Int := r[x.toNat]?.getD 0
/-- places as a map -/
structure Pls (r : List Int) (n : Nat) : Prop where
  len : r.length = n
  rng : ∀ x : Nat, x < n → ∃ k : Nat, r[x]? = some (k : Int) ∧ k < n
  inj : ∀ x y : Nat, x < n → y < n → pl r x = pl r y → x = y
theorem pls_of {l r : List Int} {n : Nat} (h : Pm l n) (h1 : r.length = n) (h2 : ∀ (k : Nat) (x : Int), l[k]? = some x → r[x.toNat]? = some (k : Int)) : Pls r n := by
  have hg : ∀ x : Nat, x < n → ∃ k : Nat, r[x]? = some (k : Int) ∧ l[k]? = some (x : Int) := by
    intro x hx
    obtain ⟨k, hk⟩ := pm_onto h hx
    exact ⟨k, by simpa using h2 k x hk, hk⟩
  refine ⟨h1, fun x hx => ?_, fun x y hx hy he => ?_⟩
  · obtain ⟨k, g1, g2⟩ := hg x hx
    have := (List.getElem?_eq_some_iff.1 g2).1
    have := h.len
    exact ⟨k, g1, by omega⟩
  · obtain ⟨k, g1, g2⟩ := hg x hx
    obtain ⟨k', g3, g4⟩ := hg y hy
    unfold pl at he
    simp only [Int.toNat_natCast, g1, g3, Option.getD_some] at he
    have : k = k' := by omega
    subst this
    rw [g2] at g4
    have := Option.some.inj g4
    omega
theorem Pls.get {r : List Int} {n : Nat} (h : Pls r n) {x : Int} (h0 : 0 ≤ x) (h1 : x < n) : getI r x = some (pl r x) ∧ 0 ≤ pl r x ∧ pl r x < n := by
  obtain ⟨x, rfl⟩ := Int.eq_ofNat_of_zero_le h0
  obtain ⟨k, g1, g2⟩ := h.rng x (by omega)
  unfold pl
  rw [Int.toNat_natCast, g1]
  exact ⟨g1, by rw [Option.getD_some]; omega, by rw [Option.getD_some]; omega⟩

/-- an entry at its new place -/
def mv (r c : List Int) (e : En3) : En3 := (pl r e.1, pl c e.2.1, e.2.2)

theorem selected_loop {l : List En3} {m n : Nat} (hl : l.length ≤ 1000) (hB : ∀ e, e ∈ l → Bd m n e) {r c : List Int} (hr : Pls r m) (hc : Pls c n) : loop (matrix_selected_l5 l r c) ([], 0) = some (l.map (mv r c)) := by
  refine Ret.eq ?_
  refine ret_loop l.length (fun k (t : List En3 × Int) => t.2 = k ∧ t.1 = (l.take k).map (mv r c)) ⟨rfl, by simp⟩ ?_
  rintro k ⟨t, i⟩ hk ⟨rfl, rfl⟩
  unfold matrix_selected_l5 matrix_selected_j7
  by_cases hkl : k < l.length
  · obtain ⟨e, he⟩ : ∃ e, l[k]? = some e := ⟨l[k], by simp [hkl]⟩
    obtain ⟨hb1, hb2⟩ := hB e (mem_get he)
    obtain ⟨r1, r2, r3⟩ := hr.get hb1.1 hb1.2
    obtain ⟨c1, c2, c3⟩ := hc.get hb2.1 hb2.2
    have e1 : getI l (k : Int) = some e := he
    have e5 : (k : Int) < (l.length : Int) := by omega
    have hw : wa .i64 (k : Int) 1 = ((k + 1 : Nat) : Int) := wa1 (by omega)
    have e6 : decide ((0 : Int) ≤ pl c e.2.1) = true := by simpa using c2
    simp only [ret_bind, ret_if, ret_get, ret_set, ret_app, ret_mkL, ret_sli, ret_wr, ret_wq, ret_some, vq_l, vq_r, Int.toNat_natCast, if_true, if_false, obs, decide_false, decide_true, Bool.false_eq_true, Bool.not_true, Bool.not_false, not_true_eq_false, not_false_eq_true, true_implies, false_implies, reduceCtorEq, e1, r1, c1, e5, r2, e6, hw, List.length_map, List.length_take, List.length_singleton]
    refine ⟨by omega, hkl, trivial, ?_⟩
    rw [tks he, List.map_append]; rfl
  · have e5 : ¬ (k : Int) < (l.length : Int) := by omega
    simp only [ret_bind, ret_if, ret_get, ret_set, ret_app, ret_mkL, ret_sli, ret_wr, ret_wq, ret_some, vq_l, vq_r, Int.toNat_natCast, if_true, if_false, obs, decide_false, decide_true, Bool.false_eq_true, Bool.not_true, Bool.not_false, not_true_eq_false, not_false_eq_true, true_implies, false_implies, reduceCtorEq, e5]
    rw [take_all (by omega)]

/-- a matrix by its entries -/
structure Mat (m n : Nat) (s i v : List Int) (l : List En3) : Prop where
  va : Va m n s i v
  ff : Ff v
  len : i.length ≤ 20
  sl : s.length = n + 1
  ent : matrix_entries (m : Int) (n : Int) s i v = some l
  bd : ∀ e, e ∈ l → Bd m n e
  lt : l.Pairwise LT
theorem Mat.check {m n : Nat} {s i v : List Int} {l : List En3} (h : Mat m n s i v l) (hn : n ≤ 50) : matrix_Check (m : Int) (n : Int) s i v = some 0 := Pw.check_zero h.va h.ff (by have := h.sl; omega) (by have := h.len; omega)
theorem Mat.ents {m n : Nat} {s i v : List Int} {l : List En3} (h : Mat m n s i v l) (hn : n ≤ 50) : matrix_Entries (m : Int) (n : Int) s i v = some l := by
  unfold matrix_Entries
  rw [bindS (h.check hn), if_pos rfl, bindS h.ent]
theorem Mat.llen {m n : Nat} {s i v : List Int} {l : List En3} (h : Mat m n s i v l) : l.length ≤ 20 := by
  have := (entries_at h.va h.ent).2
  have := h.len
  omega
theorem Mat.fin {m n : Nat} {s i v : List Int} {l : List En3} (h : Mat m n s i v l) {e : En3} (he : e ∈ l) : Fn e.2.2 = true := by
  obtain ⟨q, hq⟩ := List.mem_iff_getElem?.1 he
  obtain ⟨_, h2, _⟩ := (entries_at h.va h.ent).1 q e hq
  exact h.ff _ (mem_get h2)
theorem mat_of {m n : Nat} {s i v : List Int} (hV : Va m n s i v) (hF : Ff v) (hi : i.length ≤ 20) (hs : s.length = n + 1) (hn : n ≤ 50) : ∃ l, Mat m n s i v l := by
  have hk := Pw.check_zero hV hF (by omega) (by omega)
  obtain ⟨l, g1, g2, g3, g4⟩ := Pw.ents hV (by omega) hk
  unfold matrix_Entries at g1
  rw [bindS hk, if_pos rfl] at g1
  obtain ⟨l', g5, g6⟩ := bindE g1
  obtain rfl := Option.some.inj g6
  exact ⟨l', hV, hF, hi, hs, g5, g3, g4⟩
theorem made_mat {m n : Nat} (hm : m ≤ 50) (hn : n ≤ 50) {x : List Int} (hx : x.length ≤ 60) : ∃ s i v l, sparsemake_Matrix (m : Int) (n : Int) x = some ((m : Int), (n : Int), s, i, v) ∧ Mat m n s i v l := by
  obtain ⟨s, i, v, h1, h2, h3, h4, h5⟩ := Pw.matrix_ok hm hn x (by omega)
  have hi := made_few hm hn hx h1
  obtain ⟨l, hl⟩ := mat_of h2 h3 hi h5 hn
  exact ⟨s, i, v, l, h1, hl⟩

theorem build_mat {l : List En3} {m n : Nat} (hm : m ≤ 50) (hn : n ≤ 50) (hl : l.length ≤ 20) (hB : ∀ e, e ∈ l → Bd m n e) (hF : ∀ e, e ∈ l → Fn e.2.2 = true) (hA : Apart l) :
    ∃ s i v o, matrix_build (m : Int) (n : Int) l = some ((m : Int), (n : Int), s, i, v) ∧ Mat m n s i v o ∧ o.Perm l := by
  obtain ⟨s, i, v, h1, h2, h3, h4, h5, o, h6, h7, h8⟩ := build_ok hm hn hl hB hF hA
  exact ⟨s, i, v, o, h1, ⟨h2, h3, by omega, h5, h6, fun e he => hB e (h7.mem_iff.1 he), h8⟩, h7⟩

theorem permute_ok {m n : Nat} {s i v : List Int} {l : List En3} (hm : m ≤ 50) (hn : n ≤ 50) (h : Mat m n s i v l) {a b : List Int} (ha : Pm a m) (hb : Pm b n) :
    ∃ s' i' v' o r c, matrix_Permute (m : Int) (n : Int) s i v a b = some ((m : Int), (n : Int), s', i', v', 0) ∧ Mat m n s' i' v' o ∧ o.Perm (l.map (mv r c)) ∧ Pls r m ∧ Pls c n ∧ (∀ (k : Nat) (x : Int), a[k]? = some x → r[x.toNat]? = some (k : Int)) ∧ (∀ (k : Nat) (x : Int), b[k]? = some x → c[x.toNat]? = some (k : Int)) := by
  obtain ⟨r, r1, r2, r3⟩ := places_ok (by omega) ha
  obtain ⟨c, c1, c2, c3⟩ := places_ok (by omega) hb
  have hr := pls_of ha r2 r3
  have hc := pls_of hb c2 c3
  have hll := h.llen
  obtain ⟨s', i', v', o, p1, p2, p3⟩ := build_mat (l := l.map (mv r c)) hm hn (by simpa using hll) (fun e he => by
    obtain ⟨e', he', rfl⟩ := List.mem_map.1 he
    obtain ⟨b1, b2⟩ := h.bd e' he'
    exact ⟨(hr.get b1.1 b1.2).2, (hc.get b2.1 b2.2).2⟩) (fun e he => by
    obtain ⟨e', he', rfl⟩ := List.mem_map.1 he
    show Fn e'.2.2 = true
    exact h.fin he') (by
    unfold Apart
    rw [List.pairwise_map]
    refine List.Pairwise.imp_of_mem ?_ (lt_apart h.lt)
    intro e e' he he' hne hh
    obtain ⟨b1, b2⟩ := h.bd e he
    obtain ⟨b3, b4⟩ := h.bd e' he'
    obtain ⟨x, hx⟩ := Int.eq_ofNat_of_zero_le b1.1
    obtain ⟨x', hx'⟩ := Int.eq_ofNat_of_zero_le b3.1
    obtain ⟨y, hy⟩ := Int.eq_ofNat_of_zero_le b2.1
    obtain ⟨y', hy'⟩ := Int.eq_ofNat_of_zero_le b4.1
    unfold mv at hh
    simp only [hx, hx', hy, hy'] at hh hne
    have e1 := hr.inj x x' (by omega) (by omega) hh.1
    have e2 := hc.inj y y' (by omega) (by omega) hh.2
    exact hne ⟨by omega, by omega⟩)
  refine ⟨s', i', v', o, r, c, ?_, p2, p3, hr, hc, r3, c3⟩
  unfold matrix_Permute
  have e1 : ((!(decide ((a.length : Int) = (m : Int)))) || (!(decide ((b.length : Int) = (n : Int))))) = false := by rw [ha.len, hb.len]; simp
  have e2 : ((a.length : Nat) : Int) = (m : Int) := by rw [ha.len]
  have e3 : ((b.length : Nat) : Int) = (n : Int) := by rw [hb.len]
  rw [bindS (h.check hn), if_pos rfl, e1, if_neg (by simp), bindS r1, bindS c1]
  have e4 : matrix_selected (m : Int) (n : Int) s i v a b r c = some ((m : Int), (n : Int), s', i', v') := by
    unfold matrix_selected
    rw [bindS h.ent, bindS (selected_loop (by omega) h.bd hr hc), e2, e3, bindS p1]
  simp only [decide_true, Bool.not_true, Bool.or_false, Bool.false_eq_true, if_false]
  rw [bindS e4]

theorem en_perm {o l : List En3} (h : o.Perm l) {r c : Nat} : En o r c ↔ En l r c := by
  unfold En
  exact ⟨fun ⟨e, he, h1⟩ => ⟨e, h.mem_iff.1 he, h1⟩, fun ⟨e, he, h1⟩ => ⟨e, h.mem_iff.2 he, h1⟩⟩
theorem en_mv {l : List En3} {r c : List Int} {x y : Nat} : En (l.map (mv r c)) x y ↔ ∃ e, e ∈ l ∧ pl r e.1 = (x : Int) ∧ pl c e.2.1 = (y : Int) := by
  unfold En
  constructor
  · rintro ⟨e, he, h1, h2⟩
    obtain ⟨e', he', rfl⟩ := List.mem_map.1 he
    exact ⟨e', he', h1, h2⟩
  · rintro ⟨e, he, h1, h2⟩
    exact ⟨mv r c e, List.mem_map.2 ⟨e, he, rfl⟩, h1, h2⟩

/-! ### graphs that tell the same -/
theorem asc_ext {a b : List Int} (ha : a.Pairwise (· < ·)) (hb : b.Pairwise (· < ·)) (h : ∀ x, x ∈ a ↔ x ∈ b) : a = b := by
  have nd : ∀ {a : List Int}, a.Pairwise (· < ·) → a.Nodup := fun ha => (List.nodup_iff_pairwise_ne).2 (ha.imp fun h => by omega)
  have hp := (List.perm_ext_iff_of_nodup (nd ha) (nd hb)).2 h
  exact List.Perm.eq_of_pairwise (le := fun a b : Int => a < b) (fun a b _ _ h1 h2 => by omega) ha hb hp
theorem gr_ext {a b : List (List Int)} (ha : Gr a) (hb : Gr b) (hl : a.length = b.length) (h : ∀ (v w : Nat) l l', v < a.length → w < a.length → a[v]? = some l → b[v]? = some l' → ((w : Int) ∈ l ↔ (w : Int) ∈ l')) : a = b := by
  apply List.ext_getElem?
  intro v
  by_cases hv : v < a.length
  · obtain ⟨l, e1⟩ : ∃ l, a[v]? = some l := ⟨a[v], by simp [hv]⟩
    obtain ⟨l', e2⟩ : ∃ l', b[v]? = some l' := ⟨b[v]'(by omega), by simp [show v < b.length by omega]⟩
    rw [e1, e2]
    congr 1
    refine asc_ext (ha.asc _ _ e1) (hb.asc _ _ e2) fun x => ⟨fun hx => ?_, fun hx => ?_⟩
    · obtain ⟨h0, h1, _⟩ := ha.rng _ _ _ e1 hx
      obtain ⟨w, rfl⟩ := Int.eq_ofNat_of_zero_le h0
      exact (h v w l l' hv (by omega) e1 e2).1 hx
    · obtain ⟨h0, h1, _⟩ := hb.rng _ _ _ e2 hx
      obtain ⟨w, rfl⟩ := Int.eq_ofNat_of_zero_le h0
      exact (h v w l l' hv (by omega) e1 e2).2 hx
  · rw [List.getElem?_eq_none (by omega), List.getElem?_eq_none (by omega)]
theorem ng_ext {a b : List (List Int)} {l l' : List En3} {n : Nat} (ha : Ng a l n) (hb : Ng b l' n) (h : ∀ v w, v < n → w < n → (Nb l v w ↔ Nb l' v w)) : a = b := by
  have h1 := ha.len
  have h2 := hb.len
  exact gr_ext ha.gr hb.gr (by omega) fun v w k k' hv hw e1 e2 => by
    rw [ha.nb v w (by omega) (by omega) _ e1, hb.nb v w (by omega) (by omega) _ e2]
    exact h v w (by omega) (by omega)
theorem kgraph_same {a : List (List Int)} (h : Gr a) (hl : a.length ≤ 1000) : sparsekit_Graph a a = some true := by
  unfold sparsekit_Graph
  rw [bindS (klists_ok (by omega) (fun x hx => by
    obtain ⟨v, hv⟩ := List.mem_iff_getElem?.1 hx
    have := h.len hv
    omega)), decide_eq_true rfl]
end Px
/- The law on the graph of a normal matrix. -/
set_option linter.unusedSimpArgs false
set_option linter.unusedVariables false
namespace Px
open Pu Pl Sx Go M Vc

theorem awake12 : sparselaw12_awake = some true := by kernel_rfl

theorem kin_e {l : List Int} {v : Int} (hl : l.length ≤ 100000) : sparsekit_In l v = some (decide (v ∈ l)) := by
  refine Ret.eq ?_
  unfold sparsekit_In
  simp only [ret_bind]
  refine ret_loop l.length (fun k (t : Int) => t = k ∧ v ∉ l.take k) (by simp) ?_
  intro k t hk hI
  unfold sparsekit_In_l1
  simp only [ret_bind, ret_if, ret_get, ret_some, vq_l, vq_r]
  grind [List.take_add_one, List.mem_iff_getElem?]

theorem share_loop {m n : Nat} {s i v : List Int} (hV : Va m n s i v) (hi : i.length ≤ 100000) {a b : Nat} (ha : a < n) (hb : b < n) :
    Ret (loop (sparselaw12_GraphNormal_l121 (m : Int) (a : Int) (b : Int) ((m : Int), (n : Int), s, i, v)) (false, 0)) (fun x => x = true ↔ ∃ r, r < m ∧ a ≠ b ∧ Sd s i r a ∧ Sd s i r b) := by
  have hm := hV.sz.1
  refine ret_loop m (fun k (t : Bool × Int) => t.2 = k ∧ (t.1 = true ↔ ∃ r, r < k ∧ a ≠ b ∧ Sd s i r a ∧ Sd s i r b)) ⟨rfl, by simp⟩ ?_
  rintro k ⟨x, q⟩ hk ⟨rfl, hI⟩
  simp only at hI
  unfold sparselaw12_GraphNormal_l121
  by_cases hkm : k < m
  · have e5 : (k : Int) < (m : Int) := by omega
    have hw : wa .i64 (k : Int) 1 = ((k + 1 : Nat) : Int) := wa1 (by omega)
    obtain ⟨p, p1, p2⟩ := stored_ok hV hi hkm ha
    obtain ⟨z, z1, z2⟩ := stored_ok hV hi hkm hb
    have hsucc : (∃ r, r < k + 1 ∧ a ≠ b ∧ Sd s i r a ∧ Sd s i r b) ↔ (x = true ∨ (a ≠ b ∧ p = true ∧ z = true)) := by
      rw [hI, p2, z2]
      constructor
      · rintro ⟨r, h1, h2⟩
        by_cases hr : r = k
        · subst hr; exact .inr h2
        · exact .inl ⟨r, by omega, h2⟩
      · rintro (⟨r, h1, h2⟩ | h2)
        · exact ⟨r, by omega, h2⟩
        · exact ⟨k, by omega, h2⟩
    cases x with
    | true =>
      simp only [ret_bind, ret_if, ret_get, ret_set, ret_app, ret_mkL, ret_sli, ret_wr, ret_wq, ret_some, vq_l, vq_r, Int.toNat_natCast, if_true, if_false, obs, decide_false, decide_true, Bool.false_eq_true, Bool.not_true, Bool.not_false, not_true_eq_false, not_false_eq_true, true_implies, false_implies, reduceCtorEq, e5, hw]
      exact ⟨hkm, trivial, by rw [hsucc]; simp⟩
    | false =>
      by_cases hab : a = b
      · have e6 : (a : Int) = (b : Int) := by omega
        simp only [ret_bind, ret_if, ret_get, ret_set, ret_app, ret_mkL, ret_sli, ret_wr, ret_wq, ret_some, vq_l, vq_r, Int.toNat_natCast, if_true, if_false, obs, decide_false, decide_true, Bool.false_eq_true, Bool.not_true, Bool.not_false, not_true_eq_false, not_false_eq_true, true_implies, false_implies, reduceCtorEq, e5, hw, e6]
        exact ⟨hkm, trivial, by rw [hsucc]; simp [hab]⟩
      · have e6 : ¬ (a : Int) = (b : Int) := by omega
        cases p with
        | false =>
          simp only [ret_bind, ret_if, ret_get, ret_set, ret_app, ret_mkL, ret_sli, ret_wr, ret_wq, ret_some, vq_l, vq_r, Int.toNat_natCast, if_true, if_false, obs, decide_false, decide_true, Bool.false_eq_true, Bool.not_true, Bool.not_false, not_true_eq_false, not_false_eq_true, true_implies, false_implies, reduceCtorEq, e5, hw, e6, p1]
          exact ⟨hkm, trivial, by rw [hsucc]; simp⟩
        | true =>
          simp only [ret_bind, ret_if, ret_get, ret_set, ret_app, ret_mkL, ret_sli, ret_wr, ret_wq, ret_some, vq_l, vq_r, Int.toNat_natCast, if_true, if_false, obs, decide_false, decide_true, Bool.false_eq_true, Bool.not_true, Bool.not_false, not_true_eq_false, not_false_eq_true, true_implies, false_implies, reduceCtorEq, e5, hw, e6, p1, z1]
          exact ⟨hkm, trivial, by rw [hsucc]; simp [hab]⟩
  · have e5 : ¬ (k : Int) < (m : Int) := by omega
    simp only [ret_bind, ret_if, ret_get, ret_set, ret_app, ret_mkL, ret_sli, ret_wr, ret_wq, ret_some, vq_l, vq_r, Int.toNat_natCast, if_true, if_false, obs, decide_false, decide_true, Bool.false_eq_true, Bool.not_true, Bool.not_false, not_true_eq_false, not_false_eq_true, true_implies, false_implies, reduceCtorEq, e5]
    rw [hI]
    exact ⟨fun ⟨r, h1, h2⟩ => ⟨r, by omega, h2⟩, fun ⟨r, h1, h2⟩ => ⟨r, by omega, h2⟩⟩

theorem laws_loop {m n : Nat} (hn : n ≤ 50) {s i v : List Int} {l : List En3} (hM : Mat m n s i v l) {adj : List (List Int)} (hN : Ng adj l n) :
    loop (sparselaw12_GraphNormal_l86 (n : Int) (m : Int) ((m : Int), (n : Int), s, i, v) (adj, 0)) 0 = some (.inl ()) := by
  have hil := hM.len
  obtain ⟨hA, hll⟩ := entries_at hM.va hM.ent
  refine Ret.eq ?_
  refine ret_loop n (fun k (t : Int) => t = (k : Int)) rfl ?_
  rintro a _ ha rfl
  unfold sparselaw12_GraphNormal_l86
  by_cases han : a < n
  · have e5 : (a : Int) < (n : Int) := by omega
    have hw : wa .i64 (a : Int) 1 = ((a + 1 : Nat) : Int) := wa1 (by omega)
    have inner : loop (sparselaw12_GraphNormal_l113 (n : Int) (m : Int) (a : Int) ((m : Int), (n : Int), s, i, v) (adj, 0)) 0 = some (.inl ()) := by
      refine Ret.eq ?_
      refine ret_loop n (fun k (t : Int) => t = (k : Int)) rfl ?_
      rintro b _ hb rfl
      unfold sparselaw12_GraphNormal_l113
      by_cases hbn : b < n
      · have e6 : (b : Int) < (n : Int) := by omega
        have hw2 : wa .i64 (b : Int) 1 = ((b + 1 : Nat) : Int) := wa1 (by omega)
        obtain ⟨x, x1, x2⟩ := share_loop hM.va (by omega) han hbn
        have hal := hN.len
        obtain ⟨ll, hll'⟩ : ∃ ll, adj[a]? = some ll := ⟨adj[a]'(by omega), by simp [show a < adj.length by omega]⟩
        have e7 : getI adj (a : Int) = some ll := hll'
        have e8 : sparsekit_In ll (b : Int) = some (decide ((b : Int) ∈ ll)) := kin_e (by have := hN.gr.len hll'; omega)
        have e9 : (decide ((b : Int) ∈ ll) == x) = true := by
          have h1 := hN.nb a b han hbn ll hll'
          rw [beq_iff_eq, Bool.eq_iff_iff, decide_eq_true_eq, h1, x2]
          unfold Nb
          constructor
          · rintro ⟨h2, r, h3, h4⟩
            obtain ⟨e, he, he1, _⟩ := h3
            have hr := (hM.bd e he).1
            exact ⟨r, by omega, h2, (sd_en hM.va hA hll).2 ⟨e, he, he1, by assumption⟩, (sd_en hM.va hA hll).2 h4⟩
          · rintro ⟨r, _, h2, h3, h4⟩
            exact ⟨h2, r, (sd_en hM.va hA hll).1 h3, (sd_en hM.va hA hll).1 h4⟩
        simp only [ret_bind, ret_if, ret_get, ret_set, ret_app, ret_mkL, ret_sli, ret_wr, ret_wq, ret_some, vq_l, vq_r, Int.toNat_natCast, if_true, if_false, obs, decide_false, decide_true, Bool.false_eq_true, Bool.not_true, Bool.not_false, not_true_eq_false, not_false_eq_true, true_implies, false_implies, reduceCtorEq, e6, x1, e7, e8, e9, hw2]
        exact ⟨hbn, trivial⟩
      · have e6 : ¬ (b : Int) < (n : Int) := by omega
        simp only [ret_bind, ret_if, ret_get, ret_set, ret_app, ret_mkL, ret_sli, ret_wr, ret_wq, ret_some, vq_l, vq_r, Int.toNat_natCast, if_true, if_false, obs, decide_false, decide_true, Bool.false_eq_true, Bool.not_true, Bool.not_false, not_true_eq_false, not_false_eq_true, true_implies, false_implies, reduceCtorEq, e6]
    simp only [ret_bind, ret_if, ret_get, ret_set, ret_app, ret_mkL, ret_sli, ret_wr, ret_wq, ret_some, vq_l, vq_r, Int.toNat_natCast, if_true, if_false, obs, decide_false, decide_true, Bool.false_eq_true, Bool.not_true, Bool.not_false, not_true_eq_false, not_false_eq_true, true_implies, false_implies, reduceCtorEq, e5, inner, hw]
    exact ⟨han, trivial⟩
  · have e5 : ¬ (a : Int) < (n : Int) := by omega
    simp only [ret_bind, ret_if, ret_get, ret_set, ret_app, ret_mkL, ret_sli, ret_wr, ret_wq, ret_some, vq_l, vq_r, Int.toNat_natCast, if_true, if_false, obs, decide_false, decide_true, Bool.false_eq_true, Bool.not_true, Bool.not_false, not_true_eq_false, not_false_eq_true, true_implies, false_implies, reduceCtorEq, e5]

theorem graphNormal_true (x1 x2 : Int) (x3 x5 : List Int) : sparselaw12_GraphNormal x1 x2 x3 x5 = some true := by
  unfold sparselaw12_GraphNormal
  by_cases hc : (60 : Int) < (x3.length : Int)
  · rw [if_pos hc, awake12]; rfl
  · rw [if_neg hc]
    obtain ⟨m, p1, p2⟩ := place_ok x1 7 (by omega) (by omega)
    obtain ⟨n, q1, q2⟩ := place_ok x2 7 (by omega) (by omega)
    have p1' : sparsekit_Place x1 7 = some (m : Int) := p1
    have q1' : sparsekit_Place x2 7 = some (n : Int) := q1
    obtain ⟨s, i, v, l, m1, hM⟩ := made_mat (m := m) (n := n) (by omega) (by omega) (x := x3) (by omega)
    obtain ⟨adj, g1, hN⟩ := Pw.pnormal_ok (m := m) (n := n) (by omega) (by omega) rfl rfl (hM.check (by omega)) (hM.ents (by omega)) (by have := hM.llen; omega) hM.bd
    obtain ⟨a, a1, a2⟩ := shuffle_ok x5 (n := m) (by omega)
    obtain ⟨b, b1, b2⟩ := shuffle_ok [] (n := n) (by omega)
    have hb := shuffle_nil (by omega) b1
    obtain ⟨s', i', v', o, r, c, k1, hM', k3, hr, hc', k4, k5⟩ := permute_ok (by omega) (by omega) hM a2 b2
    obtain ⟨adj', g1', hN'⟩ := Pw.pnormal_ok (m := m) (n := n) (by omega) (by omega) rfl rfl (hM'.check (by omega)) (hM'.ents (by omega)) (by have := hM'.llen; omega) hM'.bd
    have hid : ∀ y : Nat, y < n → pl c (y : Int) = (y : Int) := by
      intro y hy
      have h1 : b[y]? = some (y : Int) := by rw [hb]; simp [hy]
      have h2 := k5 y _ h1
      unfold pl
      rw [Int.toNat_natCast] at h2 ⊢
      rw [h2]; rfl
    have hen : ∀ (x y : Nat), En o x y ↔ ∃ q : Nat, q < m ∧ pl r (q : Int) = (x : Int) ∧ En l q y := by
      intro x y
      rw [en_perm k3, en_mv]
      constructor
      · rintro ⟨e, he, h1, h2⟩
        obtain ⟨b1', b2'⟩ := hM.bd e he
        obtain ⟨q, hq⟩ := Int.eq_ofNat_of_zero_le b1'.1
        obtain ⟨z, hz⟩ := Int.eq_ofNat_of_zero_le b2'.1
        rw [hq] at h1
        rw [hz, hid z (by omega)] at h2
        exact ⟨q, by omega, h1, e, he, hq, by omega⟩
      · rintro ⟨q, hq, h1, e, he, h2, h3⟩
        obtain ⟨b1', b2'⟩ := hM.bd e he
        exact ⟨e, he, by rw [h2]; exact h1, by rw [h3]; exact hid y (by omega)⟩
    have hadj : adj = adj' := by
      refine ng_ext hN hN' fun x y hx hy => ?_
      unfold Nb
      constructor
      · rintro ⟨hne, q, h1, h2⟩
        have hq : q < m := by obtain ⟨e, he, he1, _⟩ := h1; have := (hM.bd e he).1; omega
        obtain ⟨k, f1, f2⟩ := hr.rng q hq
        have f3 : pl r (q : Int) = (k : Int) := by unfold pl; rw [Int.toNat_natCast, f1]; rfl
        exact ⟨hne, k, (hen k x).2 ⟨q, hq, f3, h1⟩, (hen k y).2 ⟨q, hq, f3, h2⟩⟩
      · rintro ⟨hne, k, h1, h2⟩
        obtain ⟨q, f1, f2, f3⟩ := (hen k x).1 h1
        obtain ⟨q', f4, f5, f6⟩ := (hen k y).1 h2
        have : q = q' := hr.inj q q' f1 f4 (by rw [f2, f5])
        subst this
        exact ⟨hne, q, f3, f6⟩
    subst hadj
    have hlen := hN.len
    rw [bindS p1', bindS q1', bindS m1]
    simp only
    rw [bindS g1, bindS a1, bindS b1]
    simp only
    rw [bindS k1]
    simp only
    rw [bindS g1']
    have e1 : ((((!(decide ((0 : Int) = 0))) || (!(decide ((0 : Int) = 0)))) || (!(decide ((0 : Int) = 0)))) || (!(decide ((adj.length : Int) = (n : Int))))) = false := by
      rw [decide_eq_true (show (adj.length : Int) = (n : Int) by omega)]; rfl
    simp only [e1, Bool.false_eq_true, if_false]
    rw [bindS (kgraph_same hN.gr (by omega))]
    simp only [Bool.not_true, obs, Bool.false_eq_true, if_false]
    rw [bindS (laws_loop (by omega) hM hN)]
    simp only [awake12, obs]
    simp [hlen]
end Px
