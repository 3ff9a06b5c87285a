/- Small values; packing entries makes a valid matrix. -/
import Derived.Test.YtoelidgkfpmgnaaDoorPwA
import Derived.KernelRfl
set_option linter.unusedSimpArgs false
set_option linter.unusedVariables false
namespace Pw
open Pu Pv Pl Sx Go M Vc

/-! ### values -/
def vtest (r e : Int) : Bool := match sparsemake_Value_j1 r e with
  | some v => Fn v
  | none => false
set_option maxRecDepth 1000000 in
theorem vall : ((List.range 17).all fun r => (List.range 13).all fun e => vtest (r : Int) ((e : Int) - 6)) = true := by kernel_rfl
theorem vone {r e : Nat} (hr : r < 17) (he : e < 13) : ∃ v, sparsemake_Value_j1 (r : Int) ((e : Int) - 6) = some v ∧ Fn v = true := by
  have h := List.all_eq_true.1 vall r (List.mem_range.2 hr)
  have h := List.all_eq_true.1 h e (List.mem_range.2 he)
  unfold vtest at h
  split at h
  · rename_i v hv
    exact ⟨v, hv, h⟩
  · cases h

theorem value_ok (x : Int) : ∃ v, sparsemake_Value x = some v ∧ Fn v = true := by
  unfold sparsemake_Value
  obtain ⟨r, h1, h2⟩ := place_ok x 17 (by omega) (by omega)
  have h1' : sparsekit_Place x 17 = some (r : Int) := h1
  rw [bindS h1']
  split
  · have hx : 0 ≤ wc .u64 x ∧ wc .u64 x < 18446744073709551616 := by unfold wc; rw [IntKind.wrap_u64]; omega
    generalize wc .u64 x = y at hx
    have e1 : wqc .u64 y 17 = y / 17 := by
      unfold wqc
      rw [Int.tdiv_eq_ediv_of_nonneg hx.1]
      exact IntWalk.u64_in _ (by omega)
    have e2 : wc .i64 (y / 17) = y / 17 := by unfold wc; exact IntWalk.i64_in _ (by constructor <;> omega)
    have e3 : wqc .i64 (y / 17) 3 = y / 17 / 3 := by
      unfold wqc
      rw [Int.tdiv_eq_ediv_of_nonneg (by omega)]
      exact IntWalk.i64_in _ (by constructor <;> omega)
    have e4 : wrc (y / 17 / 3) 13 = y / 17 / 3 % 13 := by
      unfold wrc
      exact Int.tmod_eq_emod_of_nonneg (by omega)
    rw [e1, e2, e3, e4]
    obtain ⟨e, he⟩ := Int.eq_ofNat_of_zero_le (show 0 ≤ y / 17 / 3 % 13 by omega)
    rw [he, ws_i (by omega) (by omega)]
    exact vone h2 (by omega)
  · exact vone (e := 6) h2 (by omega)

/-! ### packing -/
def El (m n : Nat) (e : Int × Int × Int) : Prop := Bd m n e ∧ Fn e.2.2 = true

theorem pack_table {E : List (Int × Int × Int)} {m n : Nat} (hm : m ≤ 200) (hn : n ≤ 200) (hl : E.length ≤ 1000) (hE : ∀ e, e ∈ E → El m n e) :
    Ret (loop (sparseref09_Pack_l1 E (m : Int)) (List.replicate (m * n) 0, 0)) (fun T => T.length = m * n ∧ ∀ x, x ∈ T → 0 ≤ x ∧ x ≤ (E.length : Int)) := by
  refine ret_loop E.length (fun k (t : List Int × Int) => t.2 = k ∧ t.1.length = m * n ∧ ∀ x, x ∈ t.1 → 0 ≤ x ∧ x ≤ (E.length : Int)) ⟨rfl, by simp, fun x hx => by have := (List.mem_replicate.1 hx).2; omega⟩ ?_
  rintro k ⟨T, i⟩ hk ⟨rfl, h1, h2⟩
  simp only at h1 h2
  unfold sparseref09_Pack_l1
  by_cases hkl : k < E.length
  · obtain ⟨e, he⟩ : ∃ e, E[k]? = some e := ⟨E[k], by simp [hkl]⟩
    obtain ⟨⟨hr, hc⟩, _⟩ := hE e (mem_get he)
    obtain ⟨r, h3⟩ := Int.eq_ofNat_of_zero_le hr.1
    obtain ⟨c, h4⟩ := Int.eq_ofNat_of_zero_le hc.1
    have e1 : getI E (k : Int) = some e := he
    have e5 : (k : Int) < (E.length : Int) := by omega
    have hw : wa .i64 (k : Int) 1 = ((k + 1 : Nat) : Int) := wa1 (by omega)
    have hcm : c * m + m ≤ m * n := by
      have : (c + 1) * m ≤ n * m := Nat.mul_le_mul_right m (by omega)
      rw [Nat.succ_mul] at this
      rw [Nat.mul_comm m n]; exact this
    have hmn : m * n ≤ 200 * 200 := Nat.mul_le_mul hm hn
    have hw2 : wm .i64 (c : Int) (m : Int) = ((c * m : Nat) : Int) := by rw [wm_i (by rw [← Int.natCast_mul]; omega) (by rw [← Int.natCast_mul]; omega), Int.natCast_mul]
    have hw3 : wa .i64 ((c * m : Nat) : Int) (r : Int) = ((c * m + r : Nat) : Int) := by rw [wa_i (by omega) (by omega)]; omega
    simp only [ret_bind, ret_if, ret_get, ret_set, ret_app, ret_mkL, ret_sli, ret_wr, ret_wq, ret_some, vq_l, vq_r, Int.toNat_natCast, if_true, if_false, obs, decide_false, decide_true, Bool.false_eq_true, Bool.not_true, Bool.not_false, not_true_eq_false, not_false_eq_true, true_implies, false_implies, reduceCtorEq, true_and, and_true, false_and, or_false, false_or, implies_true, e1, e5, hw, h3, h4, hw2, hw3]
    refine ⟨by omega, by omega, hkl, by simp [h1], fun x hx => ?_⟩
    rcases List.mem_or_eq_of_mem_set hx with h | rfl
    · exact h2 x h
    · omega
  · have e5 : ¬ (k : Int) < (E.length : Int) := by omega
    simp only [ret_bind, ret_if, ret_get, ret_set, ret_app, ret_mkL, ret_sli, ret_wr, ret_wq, ret_some, vq_l, vq_r, Int.toNat_natCast, if_true, if_false, obs, decide_false, decide_true, Bool.false_eq_true, Bool.not_true, Bool.not_false, not_true_eq_false, not_false_eq_true, true_implies, false_implies, reduceCtorEq, true_and, and_true, false_and, or_false, false_or, implies_true, e5]
    exact ⟨h1, h2⟩

theorem pack_col {E : List (Int × Int × Int)} {T : List Int} {m n j : Nat} (hm : m ≤ 200) (hn : n ≤ 200) (hl : E.length ≤ 1000) (hE : ∀ e, e ∈ E → El m n e) (hT : T.length = m * n) (hT2 : ∀ x, x ∈ T → 0 ≤ x ∧ x ≤ (E.length : Int)) (hj : j < n)
    {i v : List Int} (hv : v.length = i.length) (hi : i.length ≤ j * m) (hF : Ff v) :
    Ret (loop (sparseref09_Pack_l13 (m : Int) T (j : Int) E) (i, v, 0)) (fun o => o.2.length = o.1.length ∧ Ff o.2 ∧ ∃ c : List Int, o.1 = i ++ c ∧ c.length ≤ m ∧ c.Pairwise (· < ·) ∧ ∀ x, x ∈ c → 0 ≤ x ∧ x < (m : Int)) := by
  have hcm : j * m + m ≤ m * n := by
    have : (j + 1) * m ≤ n * m := Nat.mul_le_mul_right m (by omega)
    rw [Nat.succ_mul] at this
    rw [Nat.mul_comm m n]; exact this
  have hmn : m * n ≤ 200 * 200 := Nat.mul_le_mul hm hn
  refine ret_loop m (fun k (t : List Int × List Int × Int) => t.2.2 = k ∧ t.2.1.length = t.1.length ∧ Ff t.2.1 ∧ ∃ c : List Int, t.1 = i ++ c ∧ c.length ≤ k ∧ c.Pairwise (· < ·) ∧ ∀ x, x ∈ c → 0 ≤ x ∧ x < (k : Int)) ⟨rfl, hv, hF, [], by simp⟩ ?_
  rintro k ⟨i', v', r⟩ hk ⟨rfl, h1, h2, c, h3, h4, h5, h6⟩
  simp only at h1 h2 h3
  subst h3
  unfold sparseref09_Pack_l13 sparseref09_Pack_j14
  by_cases hkm : k < m
  · have hw : wa .i64 (k : Int) 1 = ((k + 1 : Nat) : Int) := wa1 (by omega)
    have e5 : (k : Int) < (m : Int) := by omega
    have hw2 : wm .i64 (j : Int) (m : Int) = ((j * m : Nat) : Int) := by rw [wm_i (by rw [← Int.natCast_mul]; omega) (by rw [← Int.natCast_mul]; omega), Int.natCast_mul]
    have hw3 : wa .i64 ((j * m : Nat) : Int) (k : Int) = ((j * m + k : Nat) : Int) := by rw [wa_i (by omega) (by omega)]; omega
    obtain ⟨x, hx⟩ : ∃ x, T[j * m + k]? = some x := ⟨T[j * m + k]'(by omega), by simp [show j * m + k < T.length by omega]⟩
    have hxr := hT2 x (mem_get hx)
    have e1 : getI T ((j * m + k : Nat) : Int) = some x := hx
    have hlen : (i ++ c).length = i.length + c.length := List.length_append
    by_cases h0 : (0 : Int) < x
    · obtain ⟨q, hq⟩ : ∃ q : Nat, x = (q : Int) + 1 := ⟨(x - 1).toNat, by omega⟩
      subst hq
      obtain ⟨e, he⟩ : ∃ e, E[q]? = some e := ⟨E[q]'(by omega), by simp [show q < E.length by omega]⟩
      have e2 : getI E (q : Int) = some e := he
      have hw4 : ws .i64 ((q : Int) + 1) 1 = (q : Int) := by rw [ws_i (by omega) (by omega)]; omega
      simp only [ret_bind, ret_if, ret_get, ret_set, ret_app, ret_mkL, ret_sli, ret_wr, ret_wq, ret_some, vq_l, vq_r, Int.toNat_natCast, if_true, if_false, obs, decide_false, decide_true, Bool.false_eq_true, Bool.not_true, Bool.not_false, not_true_eq_false, not_false_eq_true, true_implies, false_implies, reduceCtorEq, true_and, and_true, false_and, or_false, false_or, implies_true, e1, e2, e5, h0, hw, hw2, hw3, hw4]
      refine ⟨by rw [hlen, List.length_singleton]; omega, by rw [h1, hlen, List.length_singleton]; omega, hkm, by rw [List.length_append, List.length_append, h1]; rfl, fun f hf => ?_, c ++ [(k : Int)], by rw [List.append_assoc], by rw [List.length_append, List.length_singleton]; omega, ?_, fun y hy => ?_⟩
      · rw [List.mem_append, List.mem_singleton] at hf
        rcases hf with hf | rfl
        · exact h2 f hf
        · exact (hE e (mem_get he)).2
      · rw [pw_snoc]
        exact ⟨h5, fun y hy => by have := h6 y hy; omega⟩
      · rw [List.mem_append, List.mem_singleton] at hy
        rcases hy with hy | rfl
        · have := h6 y hy; omega
        · omega
    · simp only [ret_bind, ret_if, ret_get, ret_set, ret_app, ret_mkL, ret_sli, ret_wr, ret_wq, ret_some, vq_l, vq_r, Int.toNat_natCast, if_true, if_false, obs, decide_false, decide_true, Bool.false_eq_true, Bool.not_true, Bool.not_false, not_true_eq_false, not_false_eq_true, true_implies, false_implies, reduceCtorEq, true_and, and_true, false_and, or_false, false_or, implies_true, e1, e5, h0, hw, hw2, hw3]
      exact ⟨hkm, h1, h2, c, rfl, by omega, h5, fun y hy => by have := h6 y hy; omega⟩
  · have e5 : ¬ (k : Int) < (m : Int) := by omega
    simp only [ret_bind, ret_if, ret_get, ret_set, ret_app, ret_mkL, ret_sli, ret_wr, ret_wq, ret_some, vq_l, vq_r, Int.toNat_natCast, if_true, if_false, obs, decide_false, decide_true, Bool.false_eq_true, Bool.not_true, Bool.not_false, not_true_eq_false, not_false_eq_true, true_implies, false_implies, reduceCtorEq, true_and, and_true, false_and, or_false, false_or, implies_true, e5]
    exact ⟨h1, h2, c, rfl, by omega, h5, fun y hy => by have := h6 y hy; omega⟩

theorem mo_snoc {s : List Int} {x : Int} (h : Mo s) (hl : ∀ a, s[s.length - 1]? = some a → a ≤ x) : Mo (s ++ [x]) := by
  intro j a b ha hb
  by_cases hj : j + 1 < s.length
  · rw [List.getElem?_append_left (by omega)] at ha hb
    exact h j a b ha hb
  · by_cases hj2 : j + 1 = s.length
    · rw [List.getElem?_append_left (by omega)] at ha
      rw [List.getElem?_append_right (by omega), hj2] at hb
      simp at hb
      subst hb
      refine hl a ?_
      rw [← ha]
      congr 1
      omega
    · rw [List.getElem?_eq_none (by simp; omega)] at hb
      cases hb

theorem cl_snoc {m : Int} {s i c : List Int} (hp : 0 < s.length) (hM : Mo s) (hs : s[s.length - 1]? = some (i.length : Int)) (h : Cl m s i) (hc : c.Pairwise (· < ·)) (hr : ∀ x, x ∈ c → 0 ≤ x ∧ x < m) :
    Cl m (s ++ [((i ++ c).length : Int)]) (i ++ c) := by
  intro j a b ha hb k x hak hkb hx
  by_cases hj : j + 1 < s.length
  · rw [List.getElem?_append_left (by omega)] at ha hb
    have hbl := mo_le hM (show j + 1 ≤ s.length - 1 by omega) hb hs
    rw [List.getElem?_append_left (by omega)] at hx
    have := h j a b ha hb k x hak hkb hx
    refine ⟨this.1, this.2.1, fun h1 i' hi' => this.2.2 h1 i' ?_⟩
    rwa [List.getElem?_append_left (by omega)] at hi'
  · by_cases hj2 : j + 1 = s.length
    · rw [List.getElem?_append_left (by omega), show j = s.length - 1 by omega, hs] at ha
      have ha' := Option.some.inj ha
      rw [List.getElem?_append_right (by omega)] at hx
      have h1 := hr x (mem_get hx)
      refine ⟨h1.1, h1.2, fun h2 i' hi' => ?_⟩
      rw [List.getElem?_append_right (by omega)] at hi'
      obtain ⟨l1, e1⟩ := List.getElem?_eq_some_iff.1 hx
      obtain ⟨l2, e2⟩ := List.getElem?_eq_some_iff.1 hi'
      have := asc_get hc l1 (i := k - 1 - i.length) (by omega)
      rw [e1, e2] at this
      exact this
    · rw [List.getElem?_eq_none (by simp; omega)] at hb
      cases hb

theorem pack_ok {E : List (Int × Int × Int)} {m n : Nat} (hm : m ≤ 50) (hn : n ≤ 50) (hl : E.length ≤ 1000) (hE : ∀ e, e ∈ E → El m n e) :
    ∃ s i v, sparseref09_Pack (m : Int) (n : Int) E = some ((m : Int), (n : Int), s, i, v) ∧ Va m n s i v ∧ Ff v ∧ i.length ≤ m * n ∧ s.length = n + 1 := by
  obtain ⟨T, t1, t2, t3⟩ := pack_table (E := E) (m := m) (n := n) (by omega) (by omega) hl hE
  have hmn : m * n ≤ 50 * 50 := Nat.mul_le_mul hm hn
  have hw2 : wm .i64 (m : Int) (n : Int) = ((m * n : Nat) : Int) := by rw [wm_i (by rw [← Int.natCast_mul]; omega) (by rw [← Int.natCast_mul]; omega), Int.natCast_mul]
  have hloop : Ret (loop (sparseref09_Pack_l10 (n : Int) (m : Int) T E) ([0], [], [], 0)) (fun o => o.1.length = n + 1 ∧ o.1[0]? = some 0 ∧ o.1[n]? = some (o.2.1.length : Int) ∧ o.2.2.length = o.2.1.length ∧ o.2.1.length ≤ n * m ∧ Mo o.1 ∧ Cl m o.1 o.2.1 ∧ Ff o.2.2) := by
    refine ret_loop n (fun k (t : List Int × List Int × List Int × Int) => t.2.2.2 = k ∧ t.1.length = k + 1 ∧ t.1[0]? = some 0 ∧ t.1[k]? = some (t.2.1.length : Int) ∧ t.2.2.1.length = t.2.1.length ∧ t.2.1.length ≤ k * m ∧ Mo t.1 ∧ Cl m t.1 t.2.1 ∧ Ff t.2.2.1)
      ⟨rfl, rfl, rfl, rfl, rfl, by simp, fun j a b ha hb => by simp at hb, fun j a b ha hb => by simp at hb, fun f hf => by simp at hf⟩ ?_
    rintro k ⟨s, i, v, r⟩ hk ⟨rfl, h1, h2, h3, h4, h5, h6, h7, h8⟩
    simp only at h1 h2 h3 h4 h5 h6 h7 h8
    unfold sparseref09_Pack_l10
    by_cases hkn : k < n
    · have hw : wa .i64 (k : Int) 1 = ((k + 1 : Nat) : Int) := wa1 (by omega)
      have e5 : (k : Int) < (n : Int) := by omega
      have hkm : k * m ≤ n * m := Nat.mul_le_mul_right m (by omega)
      simp only [ret_bind, ret_if, ret_get, ret_set, ret_app, ret_mkL, ret_sli, ret_wr, ret_wq, ret_some, vq_l, vq_r, Int.toNat_natCast, if_true, if_false, obs, decide_false, decide_true, Bool.false_eq_true, Bool.not_true, Bool.not_false, not_true_eq_false, not_false_eq_true, true_implies, false_implies, reduceCtorEq, true_and, and_true, false_and, or_false, false_or, implies_true, e5, hw]
      refine ret_call (pack_col (by omega) (by omega) hl hE t2 t3 hkn h4 h5 h8) ?_
      rintro ⟨i', v'⟩ ⟨g1, g2, c, g3, g4, g5, g6⟩
      simp only at g1 g2 g3
      subst g3
      simp only [ret_bind, ret_if, ret_get, ret_set, ret_app, ret_mkL, ret_sli, ret_wr, ret_wq, ret_some, vq_l, vq_r, Int.toNat_natCast, if_true, if_false, obs, decide_false, decide_true, Bool.false_eq_true, Bool.not_true, Bool.not_false, not_true_eq_false, not_false_eq_true, true_implies, false_implies, reduceCtorEq, true_and, and_true, false_and, or_false, false_or, implies_true]
      have hlen : (i ++ c).length = i.length + c.length := List.length_append
      refine ⟨by rw [h1, List.length_singleton]; omega, hkn, by simp [h1], by rw [List.getElem?_append_left (by omega)]; exact h2, by rw [List.getElem?_append_right (by omega), h1]; simp, g1, by rw [hlen, Nat.succ_mul]; omega, mo_snoc h6 (fun a ha => ?_), cl_snoc (by omega) h6 (by rw [h1]; exact h3) h7 g5 g6, g2⟩
      rw [h1, show k + 1 - 1 = k by omega, h3] at ha
      have := Option.some.inj ha
      omega
    · have e5 : ¬ (k : Int) < (n : Int) := by omega
      simp only [ret_bind, ret_if, ret_get, ret_set, ret_app, ret_mkL, ret_sli, ret_wr, ret_wq, ret_some, vq_l, vq_r, Int.toNat_natCast, if_true, if_false, obs, decide_false, decide_true, Bool.false_eq_true, Bool.not_true, Bool.not_false, not_true_eq_false, not_false_eq_true, true_implies, false_implies, reduceCtorEq, true_and, and_true, false_and, or_false, false_or, implies_true, e5]
      obtain rfl : k = n := by omega
      exact ⟨h1, h2, h3, h4, h5, h6, h7, h8⟩
  obtain ⟨⟨s, i, v⟩, l1, l2, l3, l4, l5, l6, l7, l8, l9⟩ := hloop
  simp only at l2 l3 l4 l5 l6 l7 l8 l9
  refine ⟨s, i, v, ?_, ⟨⟨⟨by omega, by omega⟩, ⟨by omega, by omega⟩, by rw [Nat.mul_comm] at l6; omega⟩, ⟨l5, by omega, l3, by simpa using l4⟩, l7, l8⟩, l9, by rw [Nat.mul_comm m n]; exact l6, l2⟩
  unfold sparseref09_Pack
  rw [hw2, bindS (mkL_nat 0 (m * n) (by omega)), bindS t1, bindS l1]

theorem matrix_ok {m n : Nat} (hm : m ≤ 50) (hn : n ≤ 50) (l : List Int) (hl : l.length ≤ 1000) :
    ∃ s i v, sparsemake_Matrix (m : Int) (n : Int) l = some ((m : Int), (n : Int), s, i, v) ∧ Va m n s i v ∧ Ff v ∧ i.length ≤ m * n ∧ s.length = n + 1 := by
  have hloop : Ret (loop (sparsemake_Matrix_l5 l (m : Int) (n : Int)) ([], 0)) (fun E => E.length ≤ 1000 ∧ ∀ e, e ∈ E → El m n e) := by
    refine ret_loop l.length (fun k (t : List (Int × Int × Int) × Int) => t.2 = ((3 * k : Nat) : Int) ∧ t.1.length = k ∧ ∀ e, e ∈ t.1 → El m n e) ⟨rfl, rfl, fun e he => by simp at he⟩ ?_
    rintro k ⟨E, i⟩ hk ⟨rfl, h1, h2⟩
    simp only at h1 h2
    unfold sparsemake_Matrix_l5
    have hw1 : wa .i64 ((3 * k : Nat) : Int) 1 = ((3 * k + 1 : Nat) : Int) := wa1 (by omega)
    have hw2 : wa .i64 ((3 * k : Nat) : Int) 2 = ((3 * k + 2 : Nat) : Int) := by rw [wa_i (by omega) (by omega)]; omega
    have hw3 : wa .i64 ((3 * k : Nat) : Int) 3 = ((3 * (k + 1) : Nat) : Int) := by rw [wa_i (by omega) (by omega)]; omega
    by_cases hc : 3 * k + 2 < l.length ∧ 0 < m ∧ 0 < n
    · obtain ⟨hk2, hm0, hn0⟩ := hc
      have e5 : (((decide (((3 * k + 2 : Nat) : Int) < (l.length : Int))) && (decide ((0 : Int) < (m : Int)))) && (decide ((0 : Int) < (n : Int)))) = true := by simp; omega
      obtain ⟨x, hx⟩ : ∃ x, l[3 * k]? = some x := ⟨l[3 * k]'(by omega), by simp [show 3 * k < l.length by omega]⟩
      obtain ⟨y, hy⟩ : ∃ y, l[3 * k + 1]? = some y := ⟨l[3 * k + 1]'(by omega), by simp [show 3 * k + 1 < l.length by omega]⟩
      obtain ⟨z, hz⟩ : ∃ z, l[3 * k + 2]? = some z := ⟨l[3 * k + 2]'(by omega), by simp [show 3 * k + 2 < l.length by omega]⟩
      have e1 : getI l ((3 * k : Nat) : Int) = some x := hx
      have e2 : getI l ((3 * k + 1 : Nat) : Int) = some y := hy
      have e3 : getI l ((3 * k + 2 : Nat) : Int) = some z := hz
      obtain ⟨r, p1, p2⟩ := place_ok x m hm0 (by omega)
      obtain ⟨c, q1, q2⟩ := place_ok y n hn0 (by omega)
      obtain ⟨v, v1, v2⟩ := value_ok z
      simp only [ret_bind, ret_if, ret_get, ret_set, ret_app, ret_mkL, ret_sli, ret_wr, ret_wq, ret_some, vq_l, vq_r, Int.toNat_natCast, if_true, if_false, obs, decide_false, decide_true, Bool.false_eq_true, Bool.not_true, Bool.not_false, not_true_eq_false, not_false_eq_true, true_implies, false_implies, reduceCtorEq, true_and, and_true, false_and, or_false, false_or, implies_true, hw1, hw2, hw3, e5, e1, e2, e3, p1, q1, v1]
      refine ⟨by rw [List.length_singleton]; omega, by omega, by rw [List.length_append, h1, List.length_singleton], fun e he => ?_⟩
      rw [List.mem_append, List.mem_singleton] at he
      rcases he with he | rfl
      · exact h2 e he
      · exact ⟨⟨⟨by simp only; omega, by simp only; omega⟩, ⟨by simp only; omega, by simp only; omega⟩⟩, v2⟩
    · have e5 : (((decide (((3 * k + 2 : Nat) : Int) < (l.length : Int))) && (decide ((0 : Int) < (m : Int)))) && (decide ((0 : Int) < (n : Int)))) = false := by
        rw [← Bool.not_eq_true]
        simp only [Bool.and_eq_true, decide_eq_true_eq]
        omega
      simp only [ret_bind, ret_if, ret_get, ret_set, ret_app, ret_mkL, ret_sli, ret_wr, ret_wq, ret_some, vq_l, vq_r, Int.toNat_natCast, if_true, if_false, obs, decide_false, decide_true, Bool.false_eq_true, Bool.not_true, Bool.not_false, not_true_eq_false, not_false_eq_true, true_implies, false_implies, reduceCtorEq, true_and, and_true, false_and, or_false, false_or, implies_true, hw2, e5]
      exact ⟨by omega, h2⟩
  obtain ⟨E, e1, e2, e3⟩ := hloop
  obtain ⟨s, i, v, p1, p2, p3, p4, p5⟩ := pack_ok (E := E) hm hn e2 e3
  refine ⟨s, i, v, ?_, p2, p3, p4, p5⟩
  unfold sparsemake_Matrix
  rw [bindS e1, bindS p1]

theorem check_zero {x1 x2 : Int} {x3 x5 x7 : List Int} (hV : Va x1 x2 x3 x5 x7) (hF : Ff x7) (h3 : x3.length ≤ 100000) (h5 : x5.length ≤ 100000) : matrix_Check x1 x2 x3 x5 x7 = some 0 := by
  obtain ⟨e, h1, h2⟩ := check_p (x1 := x1) (x2 := x2) (x3 := x3) (x5 := x5) (x7 := x7) h3 h5 (by have := hV.hd.lv; omega)
  have : Ot x1 x2 x3 x5 x7 0 := .inr (.inr (.inr ⟨rfl, hV.sz, ⟨hV.hd, hV.mo, hV.cl⟩, hF⟩))
  rw [h1, h2.uniq this]

theorem etreeColumns_true (x1 x2 : Int) (x3 : List Int) : sparselaw19_EtreeColumns x1 x2 x3 = some true := by
  unfold sparselaw19_EtreeColumns
  by_cases hc : (90 : Int) < (x3.length : Int)
  · rw [if_pos hc, awake19]; rfl
  · rw [if_neg hc]
    obtain ⟨m, p1, p2⟩ := place_ok x1 9 (by omega) (by omega)
    obtain ⟨n, q1, q2⟩ := place_ok x2 9 (by omega) (by omega)
    have p1' : sparsekit_Place x1 9 = some (m : Int) := p1
    have q1' : sparsekit_Place x2 9 = some (n : Int) := q1
    obtain ⟨s, i, v, m1, m2, m3, m4, m5⟩ := matrix_ok (m := m) (n := n) (by omega) (by omega) x3 (by omega)
    have hmn : m * n ≤ 9 * 9 := Nat.mul_le_mul (by omega) (by omega)
    have hk := check_zero m2 m3 (by omega) (by omega)
    obtain ⟨p, adj, c1, c2, c3, c4⟩ := cols_normal m2 (by omega) hk
    rw [bindS p1', bindS q1', bindS m1]
    simp only
    rw [bindS c1, bindS c2]
    simp only
    rw [bindS c3]
    simp only [c4, decide_true, Bool.and_self, if_true]
    rw [bindS (kints_ok (by omega))]
    simp only [decide_true, obs, if_true, awake19]
end Pw
