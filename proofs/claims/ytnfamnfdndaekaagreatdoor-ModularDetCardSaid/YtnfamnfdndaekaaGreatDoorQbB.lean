/- The extended algorithm of Euclid; a fraction is recovered from its remainder. -/
import Derived.Test.YtnfamnfdndaekaaGreatDoorQbA
namespace Nt
set_option linter.unusedVariables false
set_option linter.unusedSimpArgs false

def ab (x : Int) : Int := if x < 0 then -x else x
theorem ab_nn (x : Int) : 0 ≤ ab x := by unfold ab; split <;> omega
theorem ab_neg {x : Int} (h : x ≤ 0) : ab x = -x := by unfold ab; split <;> omega
theorem ab_pos {x : Int} (h : 0 ≤ x) : ab x = x := by unfold ab; split <;> omega
/-- two remainders in a row, and their factors -/
structure Eu (m x : Int) (r0 r1 t0 t1 : Int) : Prop where
  n0 : 0 < r0
  n1 : 0 ≤ r1
  le : r1 ≤ r0
  sum : r0 * ab t1 + r1 * ab t0 = m
  sgn : (0 ≤ t0 ∧ t1 ≤ 0) ∨ (t0 ≤ 0 ∧ 0 ≤ t1)
  t : t1 ≠ 0
  c0 : m ∣ r0 - t0 * x
  c1 : m ∣ r1 - t1 * x
theorem Eu.start {m x : Int} (hm : 0 < m) (hx : 0 ≤ x ∧ x < m) : Eu m x m x 0 1 :=
  ⟨hm, hx.1, by omega, by simp [ab], .inr ⟨by omega, by omega⟩, by omega, ⟨1, by simp⟩, ⟨0, by omega⟩⟩
theorem Eu.step {m x r0 r1 t0 t1 : Int} (h : Eu m x r0 r1 t0 t1) (h1 : 0 < r1) : Eu m x r1 (r0 - r0 / r1 * r1) t1 (t0 - r0 / r1 * t1) := by
  have hq : 1 ≤ r0 / r1 := by
    have := h.le
    have h2 : 1 * r1 ≤ r0 := by omega
    exact (Int.le_ediv_iff_mul_le h1).2 h2
  have hm := Int.emod_nonneg r0 (show r1 ≠ 0 by omega)
  have hm2 := Int.emod_lt_of_pos r0 h1
  have he : r0 - r0 / r1 * r1 = r0 % r1 := by
    have := Int.mul_ediv_add_emod r0 r1
    rw [Int.mul_comm] at this
    omega
  have hs := h.sum
  generalize hqq : r0 / r1 = q at *
  have hab : ab (t0 - q * t1) = ab t0 + q * ab t1 := by
    rcases h.sgn with ⟨a1, a2⟩ | ⟨a1, a2⟩
    · have : q * t1 ≤ 0 := Int.mul_nonpos_of_nonneg_of_nonpos (by omega) a2
      rw [ab_pos a1, ab_neg a2, ab_pos (by omega)]; grind
    · have : 0 ≤ q * t1 := Int.mul_nonneg (by omega) a2
      rw [ab_neg a1, ab_pos a2, ab_neg (by omega)]; grind
  refine ⟨h1, by omega, by omega, ?_, ?_, ?_, h.c1, ?_⟩
  · rw [hab]; grind
  · rcases h.sgn with ⟨a1, a2⟩ | ⟨a1, a2⟩
    · have : q * t1 ≤ 0 := Int.mul_nonpos_of_nonneg_of_nonpos (by omega) a2
      exact .inr ⟨a2, by omega⟩
    · have : 0 ≤ q * t1 := Int.mul_nonneg (by omega) a2
      exact .inl ⟨a2, by omega⟩
  · intro h0
    have h2 : ab (t0 - q * t1) = 0 := by rw [h0]; rfl
    rw [hab] at h2
    have h3 := ab_nn t0
    have h4 : 0 < ab t1 := by
      have := h.t
      unfold ab; split <;> omega
    have h5 : 1 * ab t1 ≤ q * ab t1 := Int.mul_le_mul_of_nonneg_right hq (by omega)
    omega
  · obtain ⟨a, ha⟩ := h.c0
    obtain ⟨b, hb⟩ := h.c1
    refine ⟨a - q * b, ?_⟩
    have : r0 - q * r1 - (t0 - q * t1) * x = (r0 - t0 * x) - q * (r1 - t1 * x) := by grind
    rw [this, ha, hb]
    grind
theorem sq_lt {a b : Int} (ha : 0 ≤ a) (hb : 0 ≤ b) (h : a * a < b * b) : a < b := by
  refine Classical.byContradiction fun hno => ?_
  have h1 : b * b ≤ a * a := Int.mul_le_mul (by omega) (by omega) hb ha
  omega
/-- where the search stops, the fraction stands -/
theorem recon {x r0 r1 t0 t1 num den : Int} (hp : Prm 2147483647) (h : Eu 2147483647 x r0 r1 t0 t1) (hs0 : 2147483647 < 2 * (r0 * r0)) (hs1 : 2 * (r1 * r1) ≤ 2147483647) (hg : Int.gcd num den = 1) (hn : -1000 ≤ num ∧ num ≤ 1000) (hd : 1 ≤ den ∧ den ≤ 1000) (hx : (2147483647 : Int) ∣ num - den * x) :
    (r1 = num ∧ t1 = den) ∨ (r1 = -num ∧ t1 = -den) := by
  have hn0 := h.n0
  have hn1 := h.n1
  have hr0 : 32767 < r0 := sq_lt (by omega) (by omega) (by omega)
  have hr1 : r1 < 32768 := sq_lt (by omega) (by omega) (by omega)
  have hsum := h.sum
  have ha0 := ab_nn t0
  have ha1 := ab_nn t1
  have hprod : 0 ≤ r1 * ab t0 := Int.mul_nonneg hn1 ha0
  have ht1 : ab t1 < 65536 := by
    refine Classical.byContradiction fun hno => ?_
    have : 32768 * 65536 ≤ r0 * ab t1 := Int.mul_le_mul (by omega) (by omega) (by omega) (by omega)
    omega
  have ht1' : -65536 < t1 ∧ t1 < 65536 := by unfold ab at ht1; split at ht1 <;> omega
  -- the cross product
  have hz : r1 * den - t1 * num = 0 := by
    obtain ⟨a, ha⟩ := h.c1
    obtain ⟨b, hb⟩ := hx
    have e : r1 * den - t1 * num = 2147483647 * (a * den - b * t1) := by
      have : r1 * den - t1 * num = (r1 - t1 * x) * den - (num - den * x) * t1 := by grind
      rw [this, ha, hb]; grind
    have b1 : r1 * den ≤ 32768 * 1000 := Int.mul_le_mul (by omega) (by omega) (by omega) (by omega)
    have b2 : 0 ≤ r1 * den := Int.mul_nonneg hn1 (by omega)
    have b3 : ab t1 * ab num ≤ 65536 * 1000 := Int.mul_le_mul (by omega) (by unfold ab; split <;> omega) (ab_nn _) (by omega)
    have b4 : ab (t1 * num) = ab t1 * ab num := by
      rcases Int.le_total 0 t1 with h1 | h1 <;> rcases Int.le_total 0 num with h2 | h2
      · rw [ab_pos h1, ab_pos h2, ab_pos (Int.mul_nonneg h1 h2)]
      · rw [ab_pos h1, ab_neg h2, ab_neg (Int.mul_nonpos_of_nonneg_of_nonpos h1 h2)]; grind
      · rw [ab_neg h1, ab_pos h2, ab_neg (Int.mul_nonpos_of_nonpos_of_nonneg h1 h2)]; grind
      · rw [ab_neg h1, ab_neg h2, ab_pos (Int.mul_nonneg_of_nonpos_of_nonpos h1 h2)]; grind
    have b5 : -65536000 ≤ t1 * num ∧ t1 * num ≤ 65536000 := by
      rw [← b4] at b3
      unfold ab at b3; split at b3 <;> omega
    omega
  have hdv : den ∣ t1 := by
    have h1 : den ∣ num * t1 := ⟨r1, by rw [Int.mul_comm num t1, Int.mul_comm den r1]; omega⟩
    refine Int.natAbs_dvd_natAbs.1 (Nat.Coprime.dvd_of_dvd_mul_left (k := den.natAbs) (m := num.natAbs) ?_ ?_)
    · have : Nat.gcd num.natAbs den.natAbs = 1 := hg
      exact (Nat.gcd_comm _ _).trans this
    · rw [← Int.natAbs_mul]; exact Int.natAbs_dvd_natAbs.2 h1
  obtain ⟨k, hk⟩ := hdv
  have hr : r1 = k * num := by
    have h1 : den * (r1 - k * num) = 0 := by rw [hk] at hz; grind
    rcases Int.mul_eq_zero.1 h1 with h2 | h2 <;> omega
  -- k divides the prime
  have hkm : k ∣ 2147483647 := by
    have h1 : k ∣ ab t1 := by
      rcases Int.le_total 0 t1 with h1 | h1
      · rw [ab_pos h1]; exact ⟨den, by rw [hk, Int.mul_comm]⟩
      · rw [ab_neg h1]; exact ⟨-den, by rw [hk]; grind⟩
    obtain ⟨c, hc⟩ := h1
    refine ⟨r0 * c + num * ab t0, ?_⟩
    rw [← hsum, hc, hr]
    grind
  have hkn : k.natAbs ∣ 2147483647 := by
    have := Int.natAbs_dvd_natAbs.2 hkm
    exact this
  rcases hp.div _ hkn with h1 | h1
  · have : k = 1 ∨ k = -1 := by omega
    rcases this with rfl | rfl
    · left; constructor <;> omega
    · right; constructor <;> omega
  · exfalso
    have : 2147483647 * 1 ≤ ab k * den := by
      refine Int.mul_le_mul ?_ (by omega) (by omega) (ab_nn k)
      unfold ab; split <;> omega
    have h2 : ab t1 = ab k * den := by
      rw [hk]
      rcases Int.le_total 0 k with h3 | h3
      · rw [ab_pos h3, ab_pos (Int.mul_nonneg (by omega) h3), Int.mul_comm]
      · rw [ab_neg h3, ab_neg (Int.mul_nonpos_of_nonneg_of_nonpos (by omega) h3)]; grind
    omega
end Nt
