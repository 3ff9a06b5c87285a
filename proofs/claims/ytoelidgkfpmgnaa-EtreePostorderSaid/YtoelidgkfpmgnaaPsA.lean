/- Sorting short lists: the insertion sort of the library. -/
import Derived.Test.YtoelidgkfpmgnaaPlI
import Derived.Test.YtoelidgkfpmgnaaM6
namespace Pl
open Sx Go M

theorem sLess_ok (x y : Int) : cmp_Less_int x y = some (decide (x < y)) := by
  unfold cmp_Less_int cmp_isNaN_int; simp

def Srt (s : List Int) (k : Nat) : Prop := ∀ i j, ∀ hj : j < s.length, ∀ hij : i < j, j < k → s[i] ≤ s[j]
def SrtBut (s : List Int) (k q : Nat) : Prop := ∀ i j, ∀ hj : j < s.length, ∀ hij : i < j, j < k → j ≠ q → s[i] ≤ s[j]

theorem swap_ok {s : List Int} {k q : Nat} (hq : q < s.length) (hq0 : 0 < q) (h : SrtBut s k q) (hlt : s[q] < s[q - 1]) : SrtBut ((s.set q s[q - 1]).set (q - 1) s[q]) k (q - 1) := by
  intro i j hj hij hjk hne
  simp only [List.length_set] at hj
  simp only [List.getElem_set]
  have e1 : ∀ (a : Nat) (ha : a < s.length), (if q - 1 = a then s[q] else if q = a then s[q - 1] else s[a]) = (if a = q - 1 then s[q] else if a = q then s[q - 1] else s[a]) := by
    intro a ha
    by_cases h1 : q - 1 = a
    · rw [if_pos h1, if_pos h1.symm]
    · rw [if_neg h1, if_neg (show ¬ a = q - 1 by omega)]
      by_cases h2 : q = a
      · rw [if_pos h2, if_pos (show a = q by omega)]
      · rw [if_neg h2, if_neg (show ¬ a = q by omega)]
  rw [e1 i (by omega), e1 j hj]
  rw [if_neg hne]
  by_cases hj2 : j = q
  · rw [if_pos hj2]
    by_cases hi : i = q - 1
    · rw [if_pos hi]; omega
    · rw [if_neg hi, if_neg (by omega)]
      exact h i (q - 1) (by omega) (by omega) (by omega) (by omega)
  · rw [if_neg hj2]
    by_cases hi : i = q - 1
    · rw [if_pos hi]
      by_cases hjq : q < j
      · exact h q j hj hjq hjk hj2
      · omega
    · rw [if_neg hi]
      by_cases hi2 : i = q
      · rw [if_pos hi2]
        exact h (q - 1) j hj (by omega) hjk hj2
      · rw [if_neg hi2]
        exact h i j hj hij hjk hj2

theorem insert_ok {s : List Int} {k : Nat} (hs : s.length ≤ 1000) (hk : k < s.length) (h : Srt s k) : ∃ o, loop (slices_insertionSortOrdered_int_l28 0) (s, (k : Int)) = some o ∧ o.Perm s ∧ Srt o (k + 1) := by
  obtain ⟨o, h1, h2⟩ := whileG (step := slices_insertionSortOrdered_int_l28 0) (s := (s, (k : Int))) (fun t => ∃ q : Nat, t.2 = (q : Int) ∧ q ≤ k ∧ t.1.Perm s ∧ SrtBut t.1 (k + 1) q) (fun o => o.Perm s ∧ Srt o (k + 1)) (fun t => t.2.toNat)
    ⟨k, rfl, Nat.le_refl _, .refl _, fun i j hj hij hjk hne => h i j hj hij (by omega)⟩ (by simp only; omega) (by
    rintro ⟨t, q'⟩ ⟨q, hq, hqk, hp, hb⟩
    simp only at hq hp hb
    subst hq
    have hl := hp.length_eq
    have hql : q < t.length := by omega
    unfold slices_insertionSortOrdered_int_l28
    simp only
    by_cases h0 : 0 < q
    · have e : ws .i64 (q : Int) 1 = ((q - 1 : Nat) : Int) := by rw [ws_in (by constructor <;> omega)]; omega
      rw [if_pos (by omega), e, bindS (getI_lt hql), bindS (getI_lt (show q - 1 < t.length by omega)), bindS (sLess_ok _ _)]
      simp only [Option.bind_some]
      by_cases hlt : t[q] < t[q - 1]
      · rw [if_pos (by simpa using hlt), bindS (getI_lt (show q - 1 < t.length by omega)), bindS (getI_lt hql), bindS (setI_lt hql), bindS (setI_lt (by simp; omega))]
        exact .inl ⟨_, rfl, ⟨q - 1, rfl, by omega, (List.set_set_perm hql (by omega)).trans hp, swap_ok hql h0 hb hlt⟩, by simp only; omega⟩
      · rw [if_neg (by simpa using hlt)]
        refine .inr ⟨_, rfl, hp, fun i j hj hij hjk => ?_⟩
        by_cases hjq : j = q
        · subst hjq
          by_cases hi : i = j - 1
          · subst hi; omega
          · have := hb i (j - 1) (by omega) (by omega) (by omega) (by omega)
            omega
        · exact hb i j hj hij hjk hjq
    · rw [if_neg (by omega)]
      simp only [Option.bind_some, Bool.false_eq_true, if_false]
      refine .inr ⟨_, rfl, hp, fun i j hj hij hjk => hb i j hj hij hjk (by omega)⟩)
  exact ⟨o, h1, h2⟩

theorem insertion_ok {l : List Int} (hl : l.length ≤ 1000) : ∃ m, slices_insertionSortOrdered_int l 0 (l.length : Int) = some m ∧ m.Perm l ∧ m.Pairwise (· ≤ ·) := by
  unfold slices_insertionSortOrdered_int
  rw [wa_in (by constructor <;> omega)]
  obtain ⟨o, h1, h2⟩ := whileG (step := slices_insertionSortOrdered_int_l21 (l.length : Int) 0) (s := (l, 0 + 1)) (fun t => ∃ k : Nat, t.2 = (k : Int) ∧ 1 ≤ k ∧ t.1.Perm l ∧ Srt t.1 k) (fun o => o.Perm l ∧ o.Pairwise (· ≤ ·)) (fun t => (l.length - t.2).toNat)
    ⟨1, rfl, Nat.le_refl _, .refl _, fun i j hj hij hjk => by omega⟩ (by simp only; omega) (by
    rintro ⟨t, k'⟩ ⟨k, hk, hk1, hp, hs⟩
    simp only at hk hp hs
    subst hk
    have hlen := hp.length_eq
    unfold slices_insertionSortOrdered_int_l21
    simp only
    by_cases hc : k < l.length
    · obtain ⟨o, h1, h2, h3⟩ := insert_ok (s := t) (k := k) (by omega) (by omega) hs
      rw [if_pos (by omega), bindS h1, wa1 (by omega)]
      exact .inl ⟨_, rfl, ⟨k + 1, rfl, by omega, h2.trans hp, h3⟩, by simp only; omega⟩
    · rw [if_neg (by omega)]
      refine .inr ⟨_, rfl, hp, ?_⟩
      rw [List.pairwise_iff_getElem]
      intro i j hi hj hij
      exact hs i j hj hij (by omega))
  rw [bindS h1]
  exact ⟨o, rfl, h2⟩

set_option maxRecDepth 100000 in
theorem len64_ok {n : Nat} (hn : n < 256) : ∃ c, math_bits_Len (wc .u64 (n : Int)) = some c := by
  have h1 : wc .u64 (n : Int) = (n : Int) := IntWalk.u64_in _ (by omega)
  unfold math_bits_Len math_bits_Len64 math_bits_Len64_j1 math_bits_Len64_j2 math_bits_Len64_j3
  rw [h1, if_neg (by omega), if_neg (by omega), if_neg (by omega)]
  have h2 : wc .u8 (n : Int) = (n : Int) := IntWalk.u8_in _ (by omega)
  rw [h2]
  rw [bindS (getI_lt (k := n) (by show n < 256; omega))]
  exact ⟨_, rfl⟩

theorem sort_ok {l : List Int} (hl : l.length ≤ 12) : ∃ m, slices_Sort_int l = some m ∧ m.Perm l ∧ m.Pairwise (· ≤ ·) := by
  unfold slices_Sort_int
  obtain ⟨c, hc⟩ := len64_ok (n := l.length) (by omega)
  obtain ⟨m, h1, h2, h3⟩ := insertion_ok (l := l) (by omega)
  rw [bindS hc]
  unfold slices_pdqsortOrdered_int
  obtain ⟨o, k1, k2⟩ := whileG (step := slices_pdqsortOrdered_int_l11 (l.length : Int) 0 l c) (s := ()) (fun _ => True) (fun o => o = m) (fun _ => 0) trivial (by omega) (by
    intro _ _
    unfold slices_pdqsortOrdered_int_l11
    rw [if_pos (by rw [ws_in (by constructor <;> omega)]; omega), bindS h1]
    exact .inr ⟨_, rfl, rfl⟩)
  rw [bindS k1, k2]
  exact ⟨m, rfl, h2, h3⟩
end Pl
