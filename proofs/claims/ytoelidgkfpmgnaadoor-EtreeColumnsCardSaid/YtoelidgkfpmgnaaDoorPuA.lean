/- Tables and comparisons (copied from PtD, PtE, PtF into a name space of their own, for the etree seat). -/
import Derived.Test.YtoelidgkfpmgnaaDoorPlQ
import Derived.Test.YtoelidgkfpmgnaaDoorVcA
import Derived.Test.YtoelidgkfpmgnaaDoorM4
set_option linter.unusedSimpArgs false
set_option linter.unusedVariables false
namespace Pu
open Pl Sx Go M Vc
def Tr (T : List (List Bool)) (n : Nat) (R : Nat → Nat → Prop) : Prop := T.length = n ∧ ∀ i, i < n → ∃ r, T[i]? = some r ∧ r.length = n ∧ ∀ j, j < n → ∃ b : Bool, r[j]? = some b ∧ (b = true ↔ R i j)
theorem Tr.congr {T : List (List Bool)} {n : Nat} {R R' : Nat → Nat → Prop} (h : ∀ i j, i < n → j < n → (R i j ↔ R' i j)) (hT : Tr T n R) : Tr T n R' := by
  refine ⟨hT.1, fun i hi => ?_⟩
  obtain ⟨r, h1, h2, h3⟩ := hT.2 i hi
  exact ⟨r, h1, h2, fun j hj => by obtain ⟨b, h4, h5⟩ := h3 j hj; exact ⟨b, h4, by rw [h5, h i j hi hj]⟩⟩
theorem Tr.blank (n : Nat) : Tr (List.replicate n (List.replicate n false)) n (fun _ _ => False) :=
  ⟨by simp, fun i hi => ⟨List.replicate n false, by simp [hi], by simp, fun j hj => ⟨false, by simp [hj], by simp⟩⟩⟩
theorem Tr.row {T : List (List Bool)} {n : Nat} {R : Nat → Nat → Prop} (hT : Tr T n R) {i : Nat} (hi : i < n) : ∃ r, getI T (i : Int) = some r ∧ T[i]? = some r ∧ r.length = n ∧ ∀ j : Nat, j < n → ∃ b : Bool, getI r (j : Int) = some b ∧ (b = true ↔ R i j) := by
  obtain ⟨r, h1, h2, h3⟩ := hT.2 i hi
  exact ⟨r, h1, h1, h2, fun j hj => h3 j hj⟩
theorem Tr.put {T : List (List Bool)} {n : Nat} {R : Nat → Nat → Prop} (hT : Tr T n R) {i j : Nat} (hi : i < n) {r : List Bool} (hr : T[i]? = some r) {z : Bool} {p : Prop} (hz : z = true ↔ p) : Tr (T.set i (r.set j z)) n (fun a c => (a = i ∧ c = j ∧ p) ∨ (¬ (a = i ∧ c = j) ∧ R a c)) := by
  refine ⟨by simp [hT.1], fun a ha => ?_⟩
  obtain ⟨r', h1, h2, h3⟩ := hT.2 a ha
  by_cases hai : i = a
  · subst hai
    rw [hr] at h1
    obtain rfl := Option.some.inj h1
    refine ⟨r.set j z, by rw [List.getElem?_set, if_pos rfl, if_pos (by rw [hT.1]; exact ha)], by simp [h2], fun c hc => ?_⟩
    obtain ⟨b, h4, h5⟩ := h3 c hc
    rw [List.getElem?_set]
    by_cases hcj : j = c
    · subst hcj
      exact ⟨z, by rw [if_pos rfl, if_pos (by omega)], by rw [hz]; simp⟩
    · exact ⟨b, by rw [if_neg hcj, h4], by rw [h5]; simp [show ¬ c = j from fun h => hcj h.symm]⟩
  · refine ⟨r', by rw [List.getElem?_set, if_neg hai, h1], h2, fun c hc => ?_⟩
    obtain ⟨b, h4, h5⟩ := h3 c hc
    exact ⟨b, h4, by rw [h5]; simp [show ¬ a = i from fun h => hai h.symm]⟩
theorem Tr.on {T : List (List Bool)} {n : Nat} {R : Nat → Nat → Prop} (hT : Tr T n R) {i j : Nat} (hi : i < n) {r : List Bool} (hr : T[i]? = some r) : Tr (T.set i (r.set j true)) n (fun a c => (a = i ∧ c = j) ∨ R a c) := by
  refine Tr.congr (fun a c _ _ => ?_) (hT.put (j := j) hi hr (z := true) (p := True) (by simp))
  by_cases h : a = i ∧ c = j
  · simp [h]
  · simp [h]
open Classical in
theorem Tr.tb {T : List (List Bool)} {n : Nat} {R : Nat → Nat → Prop} (hT : Tr T n R) : Tb T n (fun i j => decide (R i j)) := by
  refine ⟨hT.1, fun i hi => ?_⟩
  obtain ⟨r, h1, h2, h3⟩ := hT.2 i hi
  refine ⟨r, h1, h2, fun j hj => ?_⟩
  obtain ⟨b, h4, h5⟩ := h3 j hj
  rw [h4]
  congr 1
  cases b with
  | true => symm; rw [decide_eq_true_iff]; exact h5.1 rfl
  | false => symm; rw [decide_eq_false_iff_not]; intro h; have := h5.2 h; cases this

theorem kints_ok {l m : List Int} (hl : l.length ≤ 100000) : sparsekit_Ints l m = some (decide (l = m)) := by
  unfold sparsekit_Ints
  by_cases hlen : l.length = m.length
  · rw [if_pos (by omega)]
    refine Ret.eq ?_
    rw [ret_bind]
    refine ret_call (P := fun o => (o = .inl () ∧ l = m) ∨ (o = .inr () ∧ l ≠ m)) ?_ ?_
    · refine ret_loop l.length (fun k (t : Int) => t = (k : Int) ∧ l.take k = m.take k) ⟨rfl, by simp⟩ ?_
      rintro k t hk ⟨rfl, hI⟩
      unfold sparsekit_Ints_l1
      by_cases hkl : k < l.length
      · have e1 : getI l (k : Int) = some l[k] := getI_lt hkl
        have e2 : getI m (k : Int) = some (m[k]'(by omega)) := getI_lt (by omega)
        have e5 : (k : Int) < (l.length : Int) := by omega
        have hw : wa .i64 (k : Int) 1 = ((k + 1 : Nat) : Int) := wa1 (by omega)
        simp only [ret_bind, ret_if, ret_get, ret_set, ret_app, ret_mkL, ret_sli, ret_wr, ret_wq, ret_some, vq_l, vq_r, Int.toNat_natCast, if_true, if_false, obs, decide_false, decide_true, Bool.false_eq_true, Bool.not_true, Bool.not_false, not_true_eq_false, not_false_eq_true, true_implies, false_implies, reduceCtorEq, e1, e2, e5, hw]
        refine ⟨fun h => ⟨hkl, trivial, ?_⟩, fun h => .inr ⟨trivial, fun he => h (by subst he; rfl)⟩⟩
        rw [tks (x := l[k]) (by simp [hkl]), tks (x := m[k]'(by omega)) (by simp [show k < m.length by omega]), hI, h]
      · have e5 : ¬ (k : Int) < (l.length : Int) := by omega
        simp only [ret_bind, ret_if, ret_get, ret_set, ret_app, ret_mkL, ret_sli, ret_wr, ret_wq, ret_some, vq_l, vq_r, Int.toNat_natCast, if_true, if_false, obs, decide_false, decide_true, Bool.false_eq_true, Bool.not_true, Bool.not_false, not_true_eq_false, not_false_eq_true, true_implies, false_implies, reduceCtorEq, e5]
        refine .inl ⟨trivial, ?_⟩
        rwa [take_all (by omega), take_all (by omega)] at hI
    · rintro o (⟨rfl, h⟩ | ⟨rfl, h⟩)
      · rw [ret_some, decide_eq_true h]
      · rw [ret_some, decide_eq_false h]
  · rw [if_neg (by omega), decide_eq_false (fun h => hlen (by rw [h]))]
end Pu
