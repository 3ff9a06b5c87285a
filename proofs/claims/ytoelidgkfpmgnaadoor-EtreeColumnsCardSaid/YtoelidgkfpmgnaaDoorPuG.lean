/- Matrices: the check, the entries, and the graphs made from them, by the program and by the document. -/
import Derived.Test.YtoelidgkfpmgnaaDoorPuA
set_option linter.unusedSimpArgs false
set_option linter.unusedVariables false
namespace Pu
open Pl Sx Go M Vc

/-! ### what a valid matrix is -/
def Sz (x1 x2 : Int) (x5 : List Int) : Prop := (0 ≤ x1 ∧ x1 ≤ 200) ∧ (0 ≤ x2 ∧ x2 ≤ 200) ∧ x5.length ≤ 10000
structure Hd (x1 x2 : Int) (x3 x5 x7 : List Int) : Prop where
  lv : x7.length = x5.length
  ls : (x3.length : Int) = x2 + 1
  s0 : x3[0]? = some 0
  sn : x3[x2.toNat]? = some (x5.length : Int)
def Mo (x3 : List Int) : Prop := ∀ (j : Nat) (a b : Int), x3[j]? = some a → x3[j + 1]? = some b → a ≤ b
def Cl (x1 : Int) (x3 x5 : List Int) : Prop := ∀ (j : Nat) (a b : Int), x3[j]? = some a → x3[j + 1]? = some b → ∀ (k : Nat) (i : Int), a ≤ (k : Int) → (k : Int) < b → x5[k]? = some i → 0 ≤ i ∧ i < x1 ∧ (a < (k : Int) → ∀ i', x5[k - 1]? = some i' → i' < i)
def Fn (f : Int) : Bool := !(decide (wand .u64 (wsrc .u64 f 52) 2047 = 2047))
def Ff (x7 : List Int) : Prop := ∀ f, f ∈ x7 → Fn f = true

theorem mo_le {x3 : List Int} (h : Mo x3) {i j : Nat} (hij : i ≤ j) : ∀ {a b : Int}, x3[i]? = some a → x3[j]? = some b → a ≤ b := by
  induction j with
  | zero =>
    intro a b ha hb
    obtain rfl : i = 0 := by omega
    rw [ha] at hb; have := Option.some.inj hb; omega
  | succ j ih =>
    intro a b ha hb
    by_cases hi : i = j + 1
    · subst hi; rw [ha] at hb; have := Option.some.inj hb; omega
    · have hj : j < x3.length := by have := (List.getElem?_eq_some_iff.1 hb).1; omega
      have hc : x3[j]? = some x3[j] := by simp [hj]
      have h1 := ih (by omega) ha hc
      have h2 := h j _ _ hc hb
      omega

/-- the outcomes of a check -/
def Ot (x1 x2 : Int) (x3 x5 x7 : List Int) (e : Int) : Prop :=
  (e = 6 ∧ ¬ Sz x1 x2 x5) ∨ (e = 1 ∧ Sz x1 x2 x5 ∧ ¬ (Hd x1 x2 x3 x5 x7 ∧ Mo x3 ∧ Cl x1 x3 x5)) ∨
  (e = 4 ∧ Sz x1 x2 x5 ∧ (Hd x1 x2 x3 x5 x7 ∧ Mo x3 ∧ Cl x1 x3 x5) ∧ ¬ Ff x7) ∨ (e = 0 ∧ Sz x1 x2 x5 ∧ (Hd x1 x2 x3 x5 x7 ∧ Mo x3 ∧ Cl x1 x3 x5) ∧ Ff x7)
theorem Ot.uniq {x1 x2 : Int} {x3 x5 x7 : List Int} {e e' : Int} (h : Ot x1 x2 x3 x5 x7 e) (h' : Ot x1 x2 x3 x5 x7 e') : e = e' := by
  rcases h with ⟨rfl, h⟩ | ⟨rfl, h, h1⟩ | ⟨rfl, h, h1, h2⟩ | ⟨rfl, h, h1, h2⟩ <;>
  rcases h' with ⟨rfl, k⟩ | ⟨rfl, k, k1⟩ | ⟨rfl, k, k1, k2⟩ | ⟨rfl, k, k1, k2⟩ <;>
  first | rfl | exact absurd h k | exact absurd k h | exact absurd h1 k1 | exact absurd k1 h1 | exact absurd h2 k2 | exact absurd k2 h2

/-! ### the program's check -/
theorem sorted_p {l : List Int} (hl : l.length ≤ 100000) (hp : 0 < l.length) : Ret (slices_IsSorted_int l) (fun b => (b = true ∧ Mo l) ∨ (b = false ∧ ¬ Mo l)) := by
  unfold slices_IsSorted_int
  have e : ws .i64 (l.length : Int) 1 = ((l.length - 1 : Nat) : Int) := by rw [ws_i (by omega) (by omega)]; omega
  rw [ret_bind, e]
  refine ret_call (P := fun o => (o = .inl () ∧ Mo l) ∨ (o = .inr () ∧ ¬ Mo l)) ?_ ?_
  · refine ret_loop (l.length - 1) (fun k (t : Int) => t = ((l.length - 1 - k : Nat) : Int) ∧ ∀ (j : Nat) (a b : Int), l.length - 1 - k ≤ j → l[j]? = some a → l[j + 1]? = some b → a ≤ b) ⟨rfl, fun j a b h h1 h2 => by have := (List.getElem?_eq_some_iff.1 h2).1; omega⟩ ?_
    rintro k t hk ⟨rfl, hI⟩
    unfold slices_IsSorted_int_l1
    by_cases hkl : k < l.length - 1
    · obtain ⟨m, hm⟩ : ∃ m, l.length - 1 - k = m + 1 := ⟨l.length - 2 - k, by omega⟩
      rw [hm] at hI ⊢
      have e1 : getI l ((m + 1 : Nat) : Int) = some (l[m + 1]'(by omega)) := getI_lt (by omega)
      have e2 : ws .i64 ((m + 1 : Nat) : Int) 1 = (m : Int) := by rw [ws_i (by omega) (by omega)]; omega
      have e3 : getI l (m : Int) = some (l[m]'(by omega)) := getI_lt (by omega)
      have e5 : (0 : Int) < ((m + 1 : Nat) : Int) := by omega
      have hm2 : l.length - 1 - (k + 1) = m := by omega
      simp only [ret_bind, ret_if, ret_get, ret_set, ret_app, ret_mkL, ret_sli, ret_wr, ret_wq, ret_some, vq_l, vq_r, Int.toNat_natCast, if_true, if_false, obs, decide_false, decide_true, Bool.false_eq_true, Bool.not_true, Bool.not_false, not_true_eq_false, not_false_eq_true, true_implies, false_implies, reduceCtorEq, e1, e2, e3, e5, less_ok, decide_eq_true_eq, hm2]
      refine ⟨fun h => .inr ⟨trivial, fun hM => ?_⟩, fun h => ⟨hkl, trivial, fun j a b hj ha hb => ?_⟩⟩
      · have := hM m (l[m]'(by omega)) (l[m + 1]'(by omega)) (by simp [show m < l.length by omega]) (by simp [show m + 1 < l.length by omega])
        omega
      · by_cases hjm : j = m
        · subst hjm
          obtain ⟨h1, rfl⟩ := List.getElem?_eq_some_iff.1 ha
          obtain ⟨h2, rfl⟩ := List.getElem?_eq_some_iff.1 hb
          omega
        · exact hI j a b (by omega) ha hb
    · have e5 : ¬ (0 : Int) < ((l.length - 1 - k : Nat) : Int) := by omega
      simp only [ret_bind, ret_if, ret_get, ret_set, ret_app, ret_mkL, ret_sli, ret_wr, ret_wq, ret_some, vq_l, vq_r, Int.toNat_natCast, if_true, if_false, obs, decide_false, decide_true, Bool.false_eq_true, Bool.not_true, Bool.not_false, not_true_eq_false, not_false_eq_true, true_implies, false_implies, reduceCtorEq, e5]
      exact .inl ⟨trivial, fun j a b ha hb => hI j a b (by omega) ha hb⟩
  · rintro o (⟨rfl, h⟩ | ⟨rfl, h⟩)
    · rw [ret_some]; exact .inl ⟨rfl, h⟩
    · rw [ret_some]; exact .inr ⟨rfl, h⟩

/-- one column, as the program checks it -/
def ColOk (x1 : Int) (c : List Int) : Prop := ∀ (k : Nat) (i : Int), c[k]? = some i → 0 ≤ i ∧ i < x1 ∧ (0 < k → ∀ i', c[k - 1]? = some i' → i' < i)
theorem col_p {x1 : Int} {c : List Int} (hc : c.length ≤ 100000) : Ret (loop (matrix_columns_l27 c x1) (-1, 0)) (fun o => (o = .inl () ∧ ColOk x1 c) ∨ (o = .inr () ∧ ¬ ColOk x1 c)) := by
  refine ret_loop c.length (fun k (t : Int × Int) => t.2 = k ∧ -1 ≤ t.1 ∧ (k = 0 → t.1 = -1) ∧ (0 < k → c[k - 1]? = some t.1) ∧ ∀ (j : Nat) (i : Int), j < k → c[j]? = some i → 0 ≤ i ∧ i < x1 ∧ (0 < j → ∀ i', c[j - 1]? = some i' → i' < i)) ⟨rfl, by simp, fun _ => rfl, fun h => by omega, fun j i h => by omega⟩ ?_
  rintro k ⟨last, i⟩ hk ⟨rfl, h0, h1, h2, h3⟩
  simp only at h0 h1 h2 h3
  unfold matrix_columns_l27
  by_cases hkl : k < c.length
  · obtain ⟨x, hx⟩ : ∃ x, c[k]? = some x := ⟨c[k], by simp [hkl]⟩
    have e1 : getI c (k : Int) = some x := hx
    have e5 : (k : Int) < (c.length : Int) := by omega
    have hw : wa .i64 (k : Int) 1 = ((k + 1 : Nat) : Int) := wa1 (by omega)
    simp only [ret_bind, ret_if, ret_get, ret_set, ret_app, ret_mkL, ret_sli, ret_wr, ret_wq, ret_some, vq_l, vq_r, Int.toNat_natCast, if_true, if_false, obs, decide_false, decide_true, Bool.false_eq_true, Bool.not_true, Bool.not_false, not_true_eq_false, not_false_eq_true, true_implies, false_implies, reduceCtorEq, e1, e5, hw, Bool.or_eq_true, decide_eq_true_eq]
    refine ⟨fun h => .inr ⟨trivial, fun hC => ?_⟩, fun h => ⟨hkl, trivial, by omega, trivial, fun _ => by simpa using hx, fun j i hj hi => ?_⟩⟩
    · have hh := hC k x hx
      rcases h with h | h
      · by_cases hk0 : k = 0
        · have := h1 hk0; omega
        · have := hh.2.2 (by omega) last (h2 (by omega)); omega
      · omega
    · by_cases hjk : j = k
      · subst hjk
        rw [hx] at hi
        obtain rfl := Option.some.inj hi
        refine ⟨?_, by omega, fun hj0 i' hi' => ?_⟩
        · omega
        · rw [h2 hj0] at hi'
          have := Option.some.inj hi'
          omega
      · exact h3 j i (by omega) hi
  · have e5 : ¬ (k : Int) < (c.length : Int) := by omega
    simp only [ret_bind, ret_if, ret_get, ret_set, ret_app, ret_mkL, ret_sli, ret_wr, ret_wq, ret_some, vq_l, vq_r, Int.toNat_natCast, if_true, if_false, obs, decide_false, decide_true, Bool.false_eq_true, Bool.not_true, Bool.not_false, not_true_eq_false, not_false_eq_true, true_implies, false_implies, reduceCtorEq, e5]
    exact .inl ⟨trivial, fun j i hi => h3 j i (by have := (List.getElem?_eq_some_iff.1 hi).1; omega) hi⟩

theorem col_cut {x1 : Int} {x5 : List Int} {a b : Nat} (hab : a ≤ b) (hb : b ≤ x5.length) : ColOk x1 ((x5.take b).drop a) ↔ ∀ (k : Nat) (i : Int), (a : Int) ≤ (k : Int) → (k : Int) < (b : Int) → x5[k]? = some i → 0 ≤ i ∧ i < x1 ∧ ((a : Int) < (k : Int) → ∀ i', x5[k - 1]? = some i' → i' < i) := by
  have hg : ∀ m : Nat, m + a < b → ((x5.take b).drop a)[m]? = x5[m + a]? := by
    intro m hm
    rw [List.getElem?_drop, List.getElem?_take, if_pos (by omega), Nat.add_comm]
  constructor
  · intro h k i h1 h2 hi
    obtain ⟨m, rfl⟩ : ∃ m, k = m + a := ⟨k - a, by omega⟩
    have := h m i (by rw [hg m (by omega)]; exact hi)
    refine ⟨this.1, this.2.1, fun h3 i' hi' => this.2.2 (by omega) i' ?_⟩
    rw [hg (m - 1) (by omega), ← hi']
    congr 1; omega
  · intro h m i hi
    have hm : m + a < b := by
      have := (List.getElem?_eq_some_iff.1 hi).1
      simp at this; omega
    rw [hg m hm] at hi
    have := h (m + a) i (by omega) (by omega) hi
    refine ⟨this.1, this.2.1, fun h3 i' hi' => this.2.2 (by omega) i' ?_⟩
    rw [hg (m - 1) (by omega)] at hi'
    rw [← hi']
    congr 1; omega

theorem columns_p {x1 x2 : Int} {x3 x5 x7 : List Int} (hs : Sz x1 x2 x5) (h3 : x3.length ≤ 100000) (h5 : x5.length ≤ 100000) : Ret (matrix_columns x1 x2 x3 x5 x7) (fun b => (b = true ∧ Hd x1 x2 x3 x5 x7 ∧ Mo x3 ∧ Cl x1 x3 x5) ∨ (b = false ∧ ¬ (Hd x1 x2 x3 x5 x7 ∧ Mo x3 ∧ Cl x1 x3 x5))) := by
  obtain ⟨hs1, hs2, hs3⟩ := hs
  obtain ⟨n, rfl⟩ := Int.eq_ofNat_of_zero_le hs2.1
  have hw : wa .i64 (n : Int) 1 = ((n + 1 : Nat) : Int) := wa1 (by omega)
  unfold matrix_columns
  rw [hw]
  by_cases hl : x3.length = n + 1
  · rw [if_pos (by omega)]
    have hg0 : getI x3 0 = some (x3[0]'(by omega)) := getI_lt (k := 0) (by omega)
    have hgn : getI x3 (n : Int) = some (x3[n]'(by omega)) := getI_lt (by omega)
    rw [bindS hg0]
    by_cases h0 : (x3[0]'(by omega)) = 0
    · rw [decide_eq_true h0]
      simp only [Bool.not_true, Option.bind_some, Bool.false_eq_true, if_false]
      simp only [ret_bind]
      refine ret_call (sorted_p h3 (by omega)) ?_
      rintro b (⟨rfl, hM⟩ | ⟨rfl, hM⟩)
      · simp only [ret_bind, ret_if, ret_get, ret_set, ret_app, ret_mkL, ret_sli, ret_wr, ret_wq, ret_some, vq_l, vq_r, Int.toNat_natCast, if_true, if_false, obs, decide_false, decide_true, Bool.false_eq_true, Bool.not_true, Bool.not_false, not_true_eq_false, not_false_eq_true, true_implies, false_implies, reduceCtorEq, true_and, and_true, false_and, or_false, false_or, implies_true, hgn]
        by_cases hn : (x3[n]'(by omega)) = (x5.length : Int)
        · rw [decide_eq_true hn]
          simp only [ret_bind, ret_if, ret_get, ret_set, ret_app, ret_mkL, ret_sli, ret_wr, ret_wq, ret_some, vq_l, vq_r, Int.toNat_natCast, if_true, if_false, obs, decide_false, decide_true, Bool.false_eq_true, Bool.not_true, Bool.not_false, not_true_eq_false, not_false_eq_true, true_implies, false_implies, reduceCtorEq, true_and, and_true, false_and, or_false, false_or, implies_true]
          by_cases hv : x5.length = x7.length
          · rw [decide_eq_true (show (x5.length : Int) = (x7.length : Int) by omega)]
            simp only [ret_bind, ret_if, ret_get, ret_set, ret_app, ret_mkL, ret_sli, ret_wr, ret_wq, ret_some, vq_l, vq_r, Int.toNat_natCast, if_true, if_false, obs, decide_false, decide_true, Bool.false_eq_true, Bool.not_true, Bool.not_false, not_true_eq_false, not_false_eq_true, true_implies, false_implies, reduceCtorEq, true_and, and_true, false_and, or_false, false_or, implies_true]
            have hH : Hd x1 (n : Int) x3 x5 x7 := ⟨hv.symm, by omega, by simp [h0, show 0 < x3.length by omega], by simp [hn, show n < x3.length by omega]⟩
            refine ret_call (P := fun o => (o = .inl () ∧ Cl x1 x3 x5) ∨ (o = .inr () ∧ ¬ Cl x1 x3 x5)) ?_ ?_
            · refine ret_loop n (fun k (t : Int) => t = (k : Int) ∧ ∀ (j : Nat) (a b : Int), j < k → x3[j]? = some a → x3[j + 1]? = some b → ∀ (k : Nat) (i : Int), a ≤ (k : Int) → (k : Int) < b → x5[k]? = some i → 0 ≤ i ∧ i < x1 ∧ (a < (k : Int) → ∀ i', x5[k - 1]? = some i' → i' < i)) ⟨rfl, fun j a b h => by omega⟩ ?_
              rintro k t hk ⟨rfl, hI⟩
              unfold matrix_columns_l24
              by_cases hkn : k < n
              · have hwk : wa .i64 (k : Int) 1 = ((k + 1 : Nat) : Int) := wa1 (by omega)
                obtain ⟨a, ha⟩ : ∃ a, x3[k]? = some a := ⟨x3[k]'(by omega), by simp [show k < x3.length by omega]⟩
                obtain ⟨b, hb⟩ : ∃ b, x3[k + 1]? = some b := ⟨x3[k + 1]'(by omega), by simp [show k + 1 < x3.length by omega]⟩
                have hab := hM k a b ha hb
                have ha0 := mo_le hM (Nat.zero_le k) hH.s0 ha
                have hbn := mo_le hM (show k + 1 ≤ n by omega) hb (by simpa using hH.sn)
                obtain ⟨a, rfl⟩ := Int.eq_ofNat_of_zero_le ha0
                obtain ⟨b, rfl⟩ := Int.eq_ofNat_of_zero_le (show 0 ≤ b by omega)
                have e1 : getI x3 (k : Int) = some (a : Int) := ha
                have e2 : getI x3 ((k + 1 : Nat) : Int) = some (b : Int) := hb
                have e5 : (k : Int) < (n : Int) := by omega
                simp only [ret_bind, ret_if, ret_get, ret_set, ret_app, ret_mkL, ret_sli, ret_wr, ret_wq, ret_some, vq_l, vq_r, Int.toNat_natCast, if_true, if_false, obs, decide_false, decide_true, Bool.false_eq_true, Bool.not_true, Bool.not_false, not_true_eq_false, not_false_eq_true, true_implies, false_implies, reduceCtorEq, hwk, e1, e2, e5]
                refine ⟨by omega, by omega, by omega, ?_⟩
                refine ret_call (col_p (by simp; omega)) ?_
                rintro o (⟨rfl, hc⟩ | ⟨rfl, hc⟩)
                · simp only [ret_bind, ret_if, ret_get, ret_set, ret_app, ret_mkL, ret_sli, ret_wr, ret_wq, ret_some, vq_l, vq_r, Int.toNat_natCast, if_true, if_false, obs, decide_false, decide_true, Bool.false_eq_true, Bool.not_true, Bool.not_false, not_true_eq_false, not_false_eq_true, true_implies, false_implies, reduceCtorEq]
                  refine ⟨hkn, trivial, fun j a' b' hj ha' hb' => ?_⟩
                  by_cases hjk : j = k
                  · subst hjk
                    rw [ha] at ha'; rw [hb] at hb'
                    obtain rfl := Option.some.inj ha'
                    obtain rfl := Option.some.inj hb'
                    exact (col_cut (by omega) (by omega)).1 hc
                  · exact hI j a' b' (by omega) ha' hb'
                · simp only [ret_bind, ret_if, ret_get, ret_set, ret_app, ret_mkL, ret_sli, ret_wr, ret_wq, ret_some, vq_l, vq_r, Int.toNat_natCast, if_true, if_false, obs, decide_false, decide_true, Bool.false_eq_true, Bool.not_true, Bool.not_false, not_true_eq_false, not_false_eq_true, true_implies, false_implies, reduceCtorEq]
                  exact .inr ⟨trivial, fun hC => hc ((col_cut (by omega) (by omega)).2 (hC k _ _ ha hb))⟩
              · have e5 : ¬ (k : Int) < (n : Int) := by omega
                simp only [ret_bind, ret_if, ret_get, ret_set, ret_app, ret_mkL, ret_sli, ret_wr, ret_wq, ret_some, vq_l, vq_r, Int.toNat_natCast, if_true, if_false, obs, decide_false, decide_true, Bool.false_eq_true, Bool.not_true, Bool.not_false, not_true_eq_false, not_false_eq_true, true_implies, false_implies, reduceCtorEq, e5]
                exact .inl ⟨trivial, fun j a b ha hb => hI j a b (by have := (List.getElem?_eq_some_iff.1 hb).1; omega) ha hb⟩
            · rintro o (⟨rfl, h⟩ | ⟨rfl, h⟩)
              · rw [ret_some]; exact .inl ⟨rfl, hH, hM, h⟩
              · rw [ret_some]; exact .inr ⟨rfl, fun hh => h hh.2.2⟩
          · rw [decide_eq_false (show ¬ (x5.length : Int) = (x7.length : Int) by omega)]
            simp only [ret_bind, ret_if, ret_get, ret_set, ret_app, ret_mkL, ret_sli, ret_wr, ret_wq, ret_some, vq_l, vq_r, Int.toNat_natCast, if_true, if_false, obs, decide_false, decide_true, Bool.false_eq_true, Bool.not_true, Bool.not_false, not_true_eq_false, not_false_eq_true, true_implies, false_implies, reduceCtorEq, true_and, and_true, false_and, or_false, false_or, implies_true]
            exact fun hh => hv hh.1.lv.symm
        · rw [decide_eq_false hn]
          simp only [ret_bind, ret_if, ret_get, ret_set, ret_app, ret_mkL, ret_sli, ret_wr, ret_wq, ret_some, vq_l, vq_r, Int.toNat_natCast, if_true, if_false, obs, decide_false, decide_true, Bool.false_eq_true, Bool.not_true, Bool.not_false, not_true_eq_false, not_false_eq_true, true_implies, false_implies, reduceCtorEq, true_and, and_true, false_and, or_false, false_or, implies_true]
          refine fun hh => hn ?_
          have := hh.1.sn
          simp only [Int.toNat_natCast] at this
          rw [List.getElem?_eq_getElem (by omega)] at this
          exact Option.some.inj this
      · simp only [ret_bind, ret_if, ret_get, ret_set, ret_app, ret_mkL, ret_sli, ret_wr, ret_wq, ret_some, vq_l, vq_r, Int.toNat_natCast, if_true, if_false, obs, decide_false, decide_true, Bool.false_eq_true, Bool.not_true, Bool.not_false, not_true_eq_false, not_false_eq_true, true_implies, false_implies, reduceCtorEq, true_and, and_true, false_and, or_false, false_or, implies_true]
        exact fun hh => hM hh.2.1
    · rw [decide_eq_false h0]
      simp only [ret_bind, ret_if, ret_get, ret_set, ret_app, ret_mkL, ret_sli, ret_wr, ret_wq, ret_some, vq_l, vq_r, Int.toNat_natCast, if_true, if_false, obs, decide_false, decide_true, Bool.false_eq_true, Bool.not_true, Bool.not_false, not_true_eq_false, not_false_eq_true, true_implies, false_implies, reduceCtorEq, true_and, and_true, false_and, or_false, false_or, implies_true]
      refine fun hh => h0 ?_
      have := hh.1.s0
      rw [List.getElem?_eq_getElem (by omega)] at this
      exact Option.some.inj this
  · rw [if_neg (by omega)]
    simp only [ret_bind, ret_if, ret_get, ret_set, ret_app, ret_mkL, ret_sli, ret_wr, ret_wq, ret_some, vq_l, vq_r, Int.toNat_natCast, if_true, if_false, obs, decide_false, decide_true, Bool.false_eq_true, Bool.not_true, Bool.not_false, not_true_eq_false, not_false_eq_true, true_implies, false_implies, reduceCtorEq, true_and, and_true, false_and, or_false, false_or, implies_true]
    exact fun hh => hl (by have := hh.1.ls; omega)

theorem fin_p (f : Int) : float_IsFinite f = some (Fn f) := by
  unfold float_IsFinite float_parts Fn
  have h2 : 0 ≤ wand .u64 (wsrc .u64 f 52) 2047 ∧ wand .u64 (wsrc .u64 f 52) 2047 ≤ 2047 := by
    unfold wand
    have hb : (BitVec.ofInt IntKind.u64.bits (wsrc .u64 f 52) &&& BitVec.ofInt IntKind.u64.bits 2047).toNat ≤ 2047 := by
      rw [BitVec.toNat_and]
      have : (BitVec.ofInt IntKind.u64.bits 2047).toNat = 2047 := by decide
      rw [this]
      exact Nat.and_le_right
    rw [IntKind.wrap_u64]
    omega
  have h3 : wc .i64 (wand .u64 (wsrc .u64 f 52) 2047) = wand .u64 (wsrc .u64 f 52) 2047 := IntWalk.i64_in _ ⟨by omega, by omega⟩
  simp only [Option.bind_some, h3]

theorem contains_p {l : List Int} (hl : l.length ≤ 100000) : Ret (slices_ContainsFunc_apiFloat l) (fun b => (b = true ∧ ¬ Ff l) ∨ (b = false ∧ Ff l)) := by
  unfold slices_ContainsFunc_apiFloat
  rw [ret_bind]
  refine ret_call (P := fun r => (0 ≤ r ∧ ¬ Ff l) ∨ (r = -1 ∧ Ff l)) ?_ ?_
  · unfold slices_IndexFunc_apiFloat
    rw [ret_bind]
    refine ret_call (P := fun o => (o = .inl () ∧ Ff l) ∨ (∃ k : Nat, o = .inr (k : Int) ∧ ¬ Ff l)) ?_ ?_
    · refine ret_loop l.length (fun k (t : Int) => t = (k : Int) ∧ ∀ f, f ∈ l.take k → Fn f = true) ⟨rfl, fun f h => by simp at h⟩ ?_
      rintro k t hk ⟨rfl, hI⟩
      unfold slices_IndexFunc_apiFloat_l1 matrix_Check_1
      by_cases hkl : k < l.length
      · obtain ⟨x, hx⟩ : ∃ x, l[k]? = some x := ⟨l[k], by simp [hkl]⟩
        have e1 : getI l (k : Int) = some x := hx
        have e5 : (k : Int) < (l.length : Int) := by omega
        have hw : wa .i64 (k : Int) 1 = ((k + 1 : Nat) : Int) := wa1 (by omega)
        simp only [ret_bind, ret_if, ret_get, ret_set, ret_app, ret_mkL, ret_sli, ret_wr, ret_wq, ret_some, vq_l, vq_r, Int.toNat_natCast, if_true, if_false, obs, decide_false, decide_true, Bool.false_eq_true, Bool.not_true, Bool.not_false, not_true_eq_false, not_false_eq_true, true_implies, false_implies, reduceCtorEq, e1, e5, hw, fin_p, Bool.not_eq_true']
        refine ⟨fun h => .inr ⟨k, rfl, fun hF => ?_⟩, fun h => ⟨hkl, trivial, fun f hf => ?_⟩⟩
        · have := hF x (mem_get hx); rw [h] at this; cases this
        · rw [mts hx] at hf
          rcases hf with hf | rfl
          · exact hI f hf
          · simpa using h
      · have e5 : ¬ (k : Int) < (l.length : Int) := by omega
        simp only [ret_bind, ret_if, ret_get, ret_set, ret_app, ret_mkL, ret_sli, ret_wr, ret_wq, ret_some, vq_l, vq_r, Int.toNat_natCast, if_true, if_false, obs, decide_false, decide_true, Bool.false_eq_true, Bool.not_true, Bool.not_false, not_true_eq_false, not_false_eq_true, true_implies, false_implies, reduceCtorEq, e5]
        refine .inl ⟨trivial, ?_⟩
        rwa [take_all (by omega)] at hI
    · rintro o (⟨rfl, h⟩ | ⟨k, rfl, h⟩)
      · rw [ret_some]; exact .inr ⟨rfl, h⟩
      · rw [ret_some]; exact .inl ⟨by omega, h⟩
  · rintro r (⟨h, h1⟩ | ⟨rfl, h1⟩)
    · rw [ret_some]; exact .inl ⟨decide_eq_true h, h1⟩
    · rw [ret_some]; exact .inr ⟨rfl, h1⟩

theorem check_p {x1 x2 : Int} {x3 x5 x7 : List Int} (h3 : x3.length ≤ 100000) (h5 : x5.length ≤ 100000) (h7 : x7.length ≤ 100000) : Ret (matrix_Check x1 x2 x3 x5 x7) (Ot x1 x2 x3 x5 x7) := by
  unfold matrix_Check matrix_within
  simp only [Option.bind_some]
  by_cases hs : Sz x1 x2 x5
  · obtain ⟨hs1, hs2, hs3⟩ := id hs
    have a1 : (decide (0 ≤ x1) && decide (x1 ≤ 200)) = true := by simp; omega
    have a2 : (decide (0 ≤ x2) && decide (x2 ≤ 200)) = true := by simp; omega
    have a3 : decide ((10000 : Int) < (x5.length : Int)) = false := decide_eq_false (by omega)
    rw [a1, a2, a3]
    simp only [ret_bind, ret_if, ret_get, ret_set, ret_app, ret_mkL, ret_sli, ret_wr, ret_wq, ret_some, vq_l, vq_r, Int.toNat_natCast, if_true, if_false, obs, decide_false, decide_true, Bool.false_eq_true, Bool.not_true, Bool.not_false, not_true_eq_false, not_false_eq_true, true_implies, false_implies, reduceCtorEq, true_and, and_true, false_and, or_false, false_or, implies_true, Bool.or_self]
    refine ret_call (columns_p hs h3 h5) ?_
    rintro b (⟨rfl, hc⟩ | ⟨rfl, hc⟩)
    · simp only [ret_bind, ret_if, ret_get, ret_set, ret_app, ret_mkL, ret_sli, ret_wr, ret_wq, ret_some, vq_l, vq_r, Int.toNat_natCast, if_true, if_false, obs, decide_false, decide_true, Bool.false_eq_true, Bool.not_true, Bool.not_false, not_true_eq_false, not_false_eq_true, true_implies, false_implies, reduceCtorEq, true_and, and_true, false_and, or_false, false_or, implies_true]
      refine ret_call (contains_p h7) ?_
      rintro b (⟨rfl, hf⟩ | ⟨rfl, hf⟩)
      · simp only [ret_bind, ret_if, ret_get, ret_set, ret_app, ret_mkL, ret_sli, ret_wr, ret_wq, ret_some, vq_l, vq_r, Int.toNat_natCast, if_true, if_false, obs, decide_false, decide_true, Bool.false_eq_true, Bool.not_true, Bool.not_false, not_true_eq_false, not_false_eq_true, true_implies, false_implies, reduceCtorEq, true_and, and_true, false_and, or_false, false_or, implies_true]; exact Or.inr (Or.inr (Or.inl ⟨rfl, hs, hc, hf⟩))
      · simp only [ret_bind, ret_if, ret_get, ret_set, ret_app, ret_mkL, ret_sli, ret_wr, ret_wq, ret_some, vq_l, vq_r, Int.toNat_natCast, if_true, if_false, obs, decide_false, decide_true, Bool.false_eq_true, Bool.not_true, Bool.not_false, not_true_eq_false, not_false_eq_true, true_implies, false_implies, reduceCtorEq, true_and, and_true, false_and, or_false, false_or, implies_true]; exact Or.inr (Or.inr (Or.inr ⟨rfl, hs, hc, hf⟩))
    · simp only [ret_bind, ret_if, ret_get, ret_set, ret_app, ret_mkL, ret_sli, ret_wr, ret_wq, ret_some, vq_l, vq_r, Int.toNat_natCast, if_true, if_false, obs, decide_false, decide_true, Bool.false_eq_true, Bool.not_true, Bool.not_false, not_true_eq_false, not_false_eq_true, true_implies, false_implies, reduceCtorEq, true_and, and_true, false_and, or_false, false_or, implies_true]; exact Or.inr (Or.inl ⟨rfl, hs, hc⟩)
  · have : ∃ b, (if (decide (0 ≤ x1) && decide (x1 ≤ 200)) = true then some (!(decide (0 ≤ x2) && decide (x2 ≤ 200))) else some true) = some b ∧ (b || decide ((10000 : Int) < (x5.length : Int))) = true := by
      by_cases a1 : 0 ≤ x1 ∧ x1 ≤ 200
      · by_cases a2 : 0 ≤ x2 ∧ x2 ≤ 200
        · by_cases a3 : x5.length ≤ 10000
          · exact absurd ⟨a1, a2, a3⟩ hs
          · refine ⟨false, ?_, by simp; omega⟩
            rw [if_pos (by simp; omega)]
            simp; omega
        · refine ⟨true, ?_, rfl⟩
          rw [if_pos (by simp; omega)]
          simp; omega
      · refine ⟨true, ?_, rfl⟩
        rw [if_neg (by simp; omega)]
    obtain ⟨b, h1, h2⟩ := this
    rw [h1]
    simp only [Option.bind_some]
    rw [if_pos h2, ret_some]
    exact Or.inl ⟨rfl, hs⟩

/-! ### the document's check -/
end Pu
