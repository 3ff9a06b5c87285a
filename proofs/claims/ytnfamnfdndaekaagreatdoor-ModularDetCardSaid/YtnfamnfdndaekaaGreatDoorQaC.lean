/- The adjugate; Cramer's rule; matrices with determinant other than zero. -/
import Derived.Test.YtnfamnfdndaekaaGreatDoorQaB
namespace Dt
set_option linter.unusedVariables false
set_option linter.unusedSimpArgs false

/-- multiples of row k are added to the rows below m -/
def adds (A : Mx) (k : Nat) (x : Nat → Int) (m : Nat) : Mx := fun r c => if r ≠ k ∧ r < m then A r c + x r * A k c else A r c
theorem adds_in {A : Mx} {x : Nat → Int} {k m r c : Nat} (h : r ≠ k ∧ r < m) : adds A k x m r c = A r c + x r * A k c := by unfold adds; rw [if_pos h]
theorem adds_out {A : Mx} {x : Nat → Int} {k m r c : Nat} (h : ¬ (r ≠ k ∧ r < m)) : adds A k x m r c = A r c := by unfold adds; rw [if_neg h]
theorem Am.adds {n : Nat} {D : Mx → Int} (h : Am n D) (A : Mx) {k : Nat} (hk : k < n) (x : Nat → Int) : ∀ m, m ≤ n → D (adds A k x m) = D A := by
  intro m
  induction m with
  | zero => exact fun _ => h.congr _ _ fun r c _ _ => adds_out (by omega)
  | succ m ih =>
    intro hm
    rw [← ih (by omega)]
    by_cases h0 : m = k
    · subst h0
      refine h.congr _ _ fun r c _ _ => ?_
      by_cases h1 : r ≠ m ∧ r < m + 1
      · rw [adds_in h1, adds_in (by omega)]
      · rw [adds_out h1, adds_out (by omega)]
    · have := h.addrow (i := m) (k := k) (by omega) hk h0 (Dt.adds A k x m) (x m)
      rw [← this]
      refine h.congr _ _ fun r c _ _ => ?_
      by_cases hr : r = m
      · subst hr
        rw [adds_in (by omega), up_in, adds_out (by omega), adds_out (by omega)]
      · rw [up_out hr]
        by_cases h1 : r ≠ k ∧ r < m
        · rw [adds_in (by omega), adds_in h1]
        · rw [adds_out (by omega), adds_out h1]
/-- row j is the unit row i, and nothing else is in column i -/
def cl (A : Mx) (j i : Nat) : Mx := fun r c => if r = j then unit i c else if c = i then 0 else A r c
theorem det_cl {n : Nat} (A : Mx) {j i : Nat} (hj : j < n) : det n (up A j (unit i)) = det n (cl A j i) := by
  rw [← (det_am n).adds (up A j (unit i)) hj (fun r => - A r i) n (by omega)]
  refine det_congr fun r c hr hc => ?_
  by_cases h : r = j
  · subst h
    rw [adds_out (by omega), up_in]
    unfold cl
    rw [if_pos rfl]
  · rw [adds_in ⟨h, hr⟩, up_out h, up_in]
    unfold cl unit
    rw [if_neg h]
    by_cases h2 : c = i
    · rw [if_pos h2, if_pos h2, h2]; omega
    · rw [if_neg h2, if_neg h2]; omega
/-- the adjugate -/
def adj (n : Nat) (A : Mx) : Mx := fun i j => det n (up A j (unit i))
theorem adj_tp {n : Nat} (A : Mx) {i j : Nat} (hi : i < n) (hj : j < n) : adj n (tp A) j i = adj n A i j := by
  unfold adj
  rw [det_cl _ hi, det_cl _ hj, ← det_tp n (cl (tp A) i j)]
  refine det_congr fun r c _ _ => ?_
  simp only [tp, cl, unit]
  by_cases h1 : c = i
  · rw [if_pos h1]
    by_cases h2 : r = j
    · rw [if_pos h2, if_pos h2, if_pos h1]
    · rw [if_neg h2, if_neg h2, if_pos h1]
  · rw [if_neg h1]
    by_cases h2 : r = j
    · rw [if_pos h2, if_pos h2, if_neg h1]
    · rw [if_neg h2, if_neg h2, if_neg h1]
/-- a row as a sum of unit rows -/
theorem row_sum {n : Nat} (v : Nat → Int) {c : Nat} (hc : c < n) : sm n (fun j => v j * unit j c) = v c := by
  rw [← sm_one (f := v) hc]
  refine sm_congr fun j _ => ?_
  unfold unit
  by_cases h : j = c
  · rw [if_pos h, if_pos h.symm, Int.mul_one]
  · rw [if_neg h, if_neg (fun e => h e.symm), Int.mul_zero]
theorem det_up_row {n : Nat} (A : Mx) {j : Nat} (hj : j < n) (v : Nat → Int) : sm n (fun c => v c * adj n A c j) = det n (up A j v) := by
  unfold adj
  rw [← (det_am n).sum hj A n v unit]
  refine det_congr fun r c hr hc => ?_
  by_cases h : r = j
  · subst h; rw [up_in, up_in]; exact row_sum v hc
  · rw [up_out h, up_out h]
/-- A adj(A) = det(A) -/
theorem mul_adj {n : Nat} (A : Mx) {r j : Nat} (hr : r < n) (hj : j < n) : sm n (fun c => A r c * adj n A c j) = if r = j then det n A else 0 := by
  rw [det_up_row A hj (A r)]
  by_cases h : r = j
  · subst h; rw [if_pos rfl, up_self]
  · rw [if_neg h]
    refine (det_am n).equal hr hj h _ fun c _ => ?_
    rw [up_out h, up_in]
/-- adj(A) A = det(A) -/
theorem adj_mul {n : Nat} (A : Mx) {i c : Nat} (hi : i < n) (hc : c < n) : sm n (fun j => adj n A i j * A j c) = if i = c then det n A else 0 := by
  have h := mul_adj (tp A) hc hi
  have e : sm n (fun j => tp A c j * adj n (tp A) j i) = sm n (fun j => adj n A i j * A j c) := sm_congr fun j hj => by
    rw [adj_tp A hi hj]
    show A j c * _ = _
    rw [Int.mul_comm]
  rw [← e, h, det_tp]
  by_cases h : i = c
  · rw [if_pos h, if_pos h.symm]
  · rw [if_neg h, if_neg (fun e => h e.symm)]
/-- the only row vector that a regular matrix maps to zero -/
theorem row_zero {n : Nat} {A : Mx} (hd : det n A ≠ 0) {w : Nat → Int} (h : ∀ c, c < n → sm n (fun r => w r * A r c) = 0) : ∀ r, r < n → w r = 0 := by
  intro i hi
  have h1 : sm n (fun c => sm n (fun r => w r * A r c) * adj n A c i) = 0 := sm_zero fun c hc => by rw [h c hc, Int.zero_mul]
  have h2 : sm n (fun c => sm n (fun r => w r * A r c) * adj n A c i) = w i * det n A := by
    have e : sm n (fun c => sm n (fun r => w r * A r c) * adj n A c i) = sm n (fun c => sm n fun r => w r * (A r c * adj n A c i)) := sm_congr fun c _ => by
      rw [← sm_mul']; exact sm_congr fun r _ => by grind
    rw [e, sm_swap]
    have e2 : sm n (fun r => sm n fun c => w r * (A r c * adj n A c i)) = sm n (fun r => if r = i then w r * det n A else 0) := sm_congr fun r hr => by
      rw [sm_mul, mul_adj A hr hi]
      by_cases h : r = i
      · rw [if_pos h, if_pos h]
      · rw [if_neg h, if_neg h, Int.mul_zero]
    rw [e2, sm_one (f := fun r => w r * det n A) hi]
  rw [h1] at h2
  rcases Int.mul_eq_zero.1 h2.symm with h3 | h3
  · exact h3
  · exact absurd h3 hd
/-- the only column vector that a regular matrix maps to zero -/
theorem col_zero {n : Nat} {A : Mx} (hd : det n A ≠ 0) {w : Nat → Int} (h : ∀ r, r < n → sm n (fun c => A r c * w c) = 0) : ∀ c, c < n → w c = 0 := by
  refine row_zero (A := tp A) (by rw [det_tp]; exact hd) fun c hc => ?_
  rw [← h c hc]
  exact sm_congr fun r _ => Int.mul_comm _ _
/-- Cramer's rule: with x the determinants where a column is replaced by b, A x = det(A) b -/
theorem cramer {n : Nat} (A : Mx) (b : Nat → Int) {r : Nat} (hr : r < n) : sm n (fun c => A r c * det n (tp (up (tp A) c b))) = det n A * b r := by
  have h1 : ∀ c, c < n → det n (tp (up (tp A) c b)) = sm n (fun j => adj n A c j * b j) := by
    intro c hc
    rw [det_tp, ← det_up_row (tp A) hc b]
    refine sm_congr fun j hj => ?_
    rw [adj_tp A hc hj, Int.mul_comm]
  have e : sm n (fun c => A r c * det n (tp (up (tp A) c b))) = sm n (fun c => sm n fun j => A r c * adj n A c j * b j) := sm_congr fun c hc => by
    rw [h1 c hc, ← sm_mul]; exact sm_congr fun j _ => by grind
  rw [e, sm_swap]
  have e2 : sm n (fun j => sm n fun c => A r c * adj n A c j * b j) = sm n (fun j => if j = r then det n A * b j else 0) := sm_congr fun j hj => by
    rw [sm_mul', mul_adj A hr hj]
    by_cases h : r = j
    · rw [if_pos h, if_pos h.symm]
    · rw [if_neg h, if_neg (fun e => h e.symm), Int.zero_mul]
  rw [e2, sm_one (f := fun j => det n A * b j) hr]
/-- a solution is the one of Cramer's rule -/
theorem cramer_uniq {n : Nat} (A : Mx) (x b : Nat → Int) (h : ∀ r, r < n → sm n (fun c => A r c * x c) = b r) {c : Nat} (hc : c < n) : det n A * x c = det n (tp (up (tp A) c b)) := by
  have h1 : det n (tp (up (tp A) c b)) = sm n (fun j => adj n A c j * b j) := by
    rw [det_tp, ← det_up_row (tp A) hc b]
    exact sm_congr fun j hj => by rw [adj_tp A hc hj, Int.mul_comm]
  rw [h1]
  have e : sm n (fun j => adj n A c j * b j) = sm n (fun j => sm n fun k => adj n A c j * A j k * x k) := sm_congr fun j hj => by
    rw [← h j hj, ← sm_mul]; exact sm_congr fun k _ => by grind
  rw [e, sm_swap]
  have e2 : sm n (fun k => sm n fun j => adj n A c j * A j k * x k) = sm n (fun k => if k = c then det n A * x k else 0) := sm_congr fun k hk => by
    rw [sm_mul', adj_mul A hc hk]
    by_cases h : c = k
    · rw [if_pos h, if_pos h.symm]
    · rw [if_neg h, if_neg (fun e => h e.symm), Int.zero_mul]
  rw [e2, sm_one (f := fun k => det n A * x k) hc]
end Dt
