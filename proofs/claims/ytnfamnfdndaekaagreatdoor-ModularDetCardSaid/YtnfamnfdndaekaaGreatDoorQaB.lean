/- Determinants: the only form of its kind; products; transposes. -/
import Derived.Test.YtnfamnfdndaekaaGreatDoorQaA
namespace Dt
set_option linter.unusedVariables false
set_option linter.unusedSimpArgs false

def one : Mx := fun r c => if r = c then 1 else 0
def unit (j : Nat) : Nat → Int := fun c => if c = j then 1 else 0
/-- row 0 is a unit row, the others have zeros in its column -/
def ins (j : Nat) (M : Mx) : Mx := fun r c => if r = 0 then unit j c else if c = j then 0 else M (r - 1) (if c < j then c else c - 1)
theorem ins_sk (j : Nat) (M : Mx) (r c : Nat) : ins j M (r + 1) (sk j c) = M r c := by
  unfold ins sk
  rw [if_neg (by omega)]
  by_cases h : c < j
  · rw [if_pos h, if_neg (by omega), if_pos h]; rfl
  · rw [if_neg h, if_neg (by omega), if_neg (by omega)]; rfl
theorem mn_ins (j : Nat) (M : Mx) : mn (ins j M) j = M := by funext r c; exact ins_sk j M r c
theorem ins_up (j : Nat) (M : Mx) (i : Nat) (v : Nat → Int) : ins j (up M i v) = up (ins j M) (i + 1) (fun c => if c = j then 0 else v (if c < j then c else c - 1)) := by
  funext r c
  unfold ins up
  by_cases h0 : r = 0
  · subst h0; simp
  · by_cases h1 : r = i + 1
    · subst h1; simp
    · simp only [h0, h1, if_false]
      by_cases h2 : c = j
      · rw [if_pos h2, if_pos h2]
      · rw [if_neg h2, if_neg h2, if_neg (by omega)]
theorem ins_am {n : Nat} {D : Mx → Int} (h : Am (n + 1) D) {j : Nat} (hj : j < n + 1) : Am n fun M => D (ins j M) := by
  refine ⟨fun A B he => h.congr _ _ fun r c hr hc => ?_, fun A i s t v w hi => ?_, fun A i hi he => ?_⟩
  · unfold ins
    by_cases h0 : r = 0
    · rw [if_pos h0, if_pos h0]
    · rw [if_neg h0, if_neg h0]
      by_cases h2 : c = j
      · rw [if_pos h2, if_pos h2]
      · rw [if_neg h2, if_neg h2]
        refine he _ _ (by omega) ?_
        split <;> omega
  · simp only [ins_up]
    have := h.lin (ins j A) (i + 1) s t (fun c => if c = j then 0 else v (if c < j then c else c - 1)) (fun c => if c = j then 0 else w (if c < j then c else c - 1)) (by omega)
    rw [← this]
    congr 2
    funext c
    split
    · simp
    · rfl
  · refine h.adj (ins j A) (i + 1) (by omega) fun c hc => ?_
    have e : ∀ r, r ≠ 0 → ins j A r c = if c = j then 0 else A (r - 1) (if c < j then c else c - 1) := fun r hr => by unfold ins; rw [if_neg hr]
    rw [e _ (by omega), e _ (by omega)]
    by_cases h2 : c = j
    · rw [if_pos h2, if_pos h2]
    · rw [if_neg h2, if_neg h2]
      exact he _ (by split <;> omega)
/-- multiples of row 0 are added to the rows below m -/
def addm (A : Mx) (x : Nat → Int) (m : Nat) : Mx := fun r c => if 0 < r ∧ r < m then A r c + x r * A 0 c else A r c
theorem addm_in {A : Mx} {x : Nat → Int} {m r c : Nat} (h : 0 < r ∧ r < m) : addm A x m r c = A r c + x r * A 0 c := by unfold addm; rw [if_pos h]
theorem addm_out {A : Mx} {x : Nat → Int} {m r c : Nat} (h : ¬ (0 < r ∧ r < m)) : addm A x m r c = A r c := by unfold addm; rw [if_neg h]
theorem up_in {A : Mx} {i c : Nat} {v : Nat → Int} : up A i v i c = v c := by unfold up; rw [if_pos rfl]
theorem up_out {A : Mx} {i r c : Nat} {v : Nat → Int} (h : r ≠ i) : up A i v r c = A r c := by unfold up; rw [if_neg h]
theorem Am.addm {n : Nat} {D : Mx → Int} (h : Am n D) (A : Mx) (x : Nat → Int) : ∀ m, m ≤ n → D (addm A x m) = D A := by
  intro m
  induction m with
  | zero => exact fun _ => h.congr _ _ fun r c _ _ => addm_out (by omega)
  | succ m ih =>
    intro hm
    rw [← ih (by omega)]
    by_cases h0 : m = 0
    · subst h0
      exact h.congr _ _ fun r c _ _ => by rw [addm_out (by omega), addm_out (by omega)]
    · have := h.addrow (i := m) (k := 0) (by omega) (by omega) h0 (Dt.addm A x m) (x m)
      rw [← this]
      refine h.congr _ _ fun r c _ _ => ?_
      by_cases hr : r = m
      · subst hr
        rw [addm_in (by omega), up_in, addm_out (by omega), addm_out (by omega)]
      · rw [up_out hr]
        by_cases h1 : 0 < r ∧ r < m
        · rw [addm_in (by omega), addm_in h1]
        · rw [addm_out (by omega), addm_out h1]
theorem if_iff {p q : Prop} [Decidable p] [Decidable q] (h : p ↔ q) : (if p then (1 : Int) else 0) = if q then 1 else 0 := by
  by_cases hp : p
  · rw [if_pos hp, if_pos (h.1 hp)]
  · rw [if_neg hp, if_neg (fun hq => hp (h.2 hq))]
theorem ins_one (j r c : Nat) : ins j one r c = if (r = 0 ∧ c = j) ∨ (0 < r ∧ r ≤ j ∧ c + 1 = r) ∨ (j < r ∧ c = r) then 1 else 0 := by
  unfold ins one unit
  by_cases h0 : r = 0
  · rw [if_pos h0]
    exact if_iff (by omega)
  · rw [if_neg h0]
    by_cases h1 : c = j
    · rw [if_pos h1, if_neg (by omega)]
    · rw [if_neg h1]
      by_cases h2 : c < j
      · rw [if_pos h2]; exact if_iff (by omega)
      · rw [if_neg h2]; exact if_iff (by omega)
theorem det_ins_one {n : Nat} {D : Mx → Int} (h : Am (n + 1) D) : ∀ j, j < n + 1 → D (ins j one) = sg j * D one := by
  intro j
  induction j with
  | zero =>
    intro _
    rw [show sg 0 = 1 from rfl, Int.one_mul]
    refine h.congr _ _ fun r c _ _ => ?_
    rw [ins_one]
    unfold one
    exact if_iff (by omega)
  | succ j ih =>
    intro hj
    have hs := h.swap (i := 0) (k := j + 1) (by omega) hj (by omega) (ins j one)
    rw [ih (by omega)] at hs
    rw [sg_succ, Int.neg_mul, ← hs]
    refine h.congr _ _ fun r c _ _ => ?_
    show ins (j + 1) one r c = if r = 0 then ins j one (j + 1) c else if r = j + 1 then ins j one 0 c else ins j one r c
    by_cases h0 : r = 0
    · rw [if_pos h0, ins_one, ins_one]; exact if_iff (by omega)
    · rw [if_neg h0]
      by_cases h1 : r = j + 1
      · rw [if_pos h1, ins_one, ins_one]; exact if_iff (by omega)
      · rw [if_neg h1, ins_one, ins_one]; exact if_iff (by omega)
/-- a form that is linear and alternating in the rows is a multiple of the determinant -/
theorem Am.uniq : ∀ {n : Nat} {D : Mx → Int}, Am n D → ∀ A, D A = det n A * D one
  | 0, D, h, A => by
    rw [det, Int.one_mul]
    exact h.congr _ _ fun r c hr _ => by omega
  | n + 1, D, h, A => by
    have h0 : D A = sm (n + 1) fun j => A 0 j * D (up A 0 (unit j)) := by
      rw [← h.sum (by omega) A (n + 1) (A 0) unit]
      refine h.congr _ _ fun r c hr hc => ?_
      simp only [up]
      split
      · rename_i e
        subst e
        have := sm_one (n := n + 1) (a := c) (f := A 0) hc
        rw [← this]
        refine sm_congr fun i hi => ?_
        unfold unit
        by_cases e : i = c
        · rw [if_pos e, if_pos e.symm, Int.mul_one]
        · rw [if_neg e, if_neg (fun e' => e e'.symm), Int.mul_zero]
      · rfl
    rw [h0, det, ← sm_mul']
    refine sm_congr fun j hj => ?_
    have h1 : D (up A 0 (unit j)) = D (ins j (mn A j)) := by
      rw [← h.addm (ins j (mn A j)) (fun r => A r j) (n + 1) (by omega)]
      refine h.congr _ _ fun r c hr hc => ?_
      unfold Dt.addm up
      by_cases e0 : r = 0
      · subst e0
        rw [if_pos rfl, if_neg (by omega)]
        unfold ins
        rw [if_pos rfl]
      · rw [if_neg e0, if_pos (by omega)]
        unfold ins mn
        simp only [if_true, if_neg e0]
        unfold unit
        by_cases e : c = j
        · subst e; rw [if_pos rfl, if_pos rfl]; omega
        · rw [if_neg e, if_neg e, show r - 1 + 1 = r by omega]
          unfold sk
          by_cases e2 : c < j
          · rw [if_pos e2, if_pos e2]; omega
          · rw [if_neg e2, if_neg (by omega), show c - 1 + 1 = c by omega]; omega
    have h2 : D (ins j (mn A j)) = det n (mn A j) * D (ins j one) := Am.uniq (ins_am h hj) (mn A j)
    rw [h1, h2, det_ins_one h j hj]
    grind
theorem det_one : ∀ n, det n one = 1
  | 0 => rfl
  | n + 1 => by
    have h1 : det (n + 1) one = sm (n + 1) fun j => if j = 0 then det n (mn one 0) else 0 := by
      rw [det]
      refine sm_congr fun j hj => ?_
      unfold one
      by_cases h : j = 0
      · subst h; simp [sg]
      · rw [if_neg (by omega), if_neg h]; simp
    rw [h1, sm_one (f := fun _ => det n (mn one 0)) (by omega), ← det_one n]
    refine det_congr fun r c _ _ => ?_
    unfold mn one
    have : sk 0 c = c + 1 := rfl
    rw [this]
    exact if_iff (by omega)

/-- the product -/
def mul (n : Nat) (A B : Mx) : Mx := fun r c => sm n fun k => A r k * B k c
theorem mul_up (n : Nat) (A B : Mx) (i : Nat) (v : Nat → Int) : mul n (up A i v) B = up (mul n A B) i (fun c => sm n fun k => v k * B k c) := by
  funext r c
  unfold mul up
  by_cases h : r = i
  · simp only [if_pos h]
  · simp only [if_neg h]
theorem mul_am (n : Nat) (B : Mx) : Am n fun A => det n (mul n A B) := by
  refine ⟨fun A C he => det_congr fun r c hr hc => sm_congr fun k hk => by rw [he r k hr hk], fun A i s t v w hi => ?_, fun A i hi he => ?_⟩
  · simp only [mul_up]
    rw [← det_lin _ s t _ _ hi]
    congr 2
    funext c
    rw [← sm_lin]
    refine sm_congr fun k _ => ?_
    grind
  · refine det_adj hi fun c hc => sm_congr fun k hk => by rw [he k hk]
theorem one_mul {n : Nat} {B : Mx} {r c : Nat} (hr : r < n) : mul n one B r c = B r c := by
  unfold mul
  rw [← sm_one (f := fun k => B k c) hr]
  refine sm_congr fun k hk => ?_
  unfold one
  by_cases h : r = k
  · rw [if_pos h, if_pos h.symm, Int.one_mul]
  · rw [if_neg h, if_neg (fun e => h e.symm), Int.zero_mul]
/-- determinants are multiplicative -/
theorem det_mul (n : Nat) (A B : Mx) : det n (mul n A B) = det n A * det n B := by
  have h : det n (mul n A B) = det n A * det n (mul n one B) := (mul_am n B).uniq A
  rw [h]
  congr 1
  exact det_congr fun r c hr hc => one_mul hr

/-- the transpose -/
def tp (A : Mx) : Mx := fun r c => A c r
/-- linear in a column -/
theorem det_col_lin : ∀ {n i : Nat} (A : Mx) (s t : Int) (v w : Nat → Int), i < n → det n (tp (up (tp A) i (fun c => s * v c + t * w c))) = s * det n (tp (up (tp A) i v)) + t * det n (tp (up (tp A) i w))
  | 0, i, _, _, _, _, _, h => by omega
  | n + 1, i, A, s, t, v, w, h => by
    rw [det, det, det, ← sm_lin]
    refine sm_congr fun j hj => ?_
    by_cases hji : j = i
    · subst hji
      have e : ∀ x, mn (tp (up (tp A) j x)) j = mn A j := by
        intro x
        funext r c
        simp only [mn, tp, up]
        rw [if_neg]
        unfold sk
        split <;> omega
      rw [e, e, e]
      simp only [tp, up, if_true]
      grind
    · -- the column's place in the minor
      have e : ∀ x, mn (tp (up (tp A) i x)) j = tp (up (tp (mn A j)) (if i < j then i else i - 1) (fun c => x (c + 1))) := by
        intro x
        funext r c
        simp only [mn, tp, up]
        have : (sk j c = i) ↔ (c = if i < j then i else i - 1) := by
          unfold sk
          split <;> split <;> omega
        by_cases h1 : sk j c = i
        · rw [if_pos h1, if_pos (this.1 h1)]
        · rw [if_neg h1, if_neg (fun h2 => h1 (this.2 h2))]
      rw [e, e, e, det_col_lin (mn A j) s t (fun c => v (c + 1)) (fun c => w (c + 1)) (by split <;> omega)]
      have e2 : ∀ x, tp (up (tp A) i x) 0 j = A 0 j := by
        intro x
        simp only [tp, up]
        rw [if_neg hji]
      rw [e2, e2, e2]
      grind
/-- two adjacent columns are alike -/
theorem det_col_adj : ∀ {n i : Nat} {A : Mx}, i + 1 < n → (∀ r, r < n → A r i = A r (i + 1)) → det n A = 0
  | 0, _, _, h, _ => by omega
  | n + 1, i, A, h, he => by
    have hz : ∀ j, j < n + 1 → j ≠ i → j ≠ i + 1 → det n (mn A j) = 0 := by
      intro j hj h1 h2
      refine det_col_adj (i := if i < j then i else i - 1) (by split <;> omega) fun r hr => ?_
      simp only [mn]
      have e1 : sk j (if i < j then i else i - 1) = i := by unfold sk; split <;> (try split) <;> omega
      have e2 : sk j ((if i < j then i else i - 1) + 1) = i + 1 := by unfold sk; split <;> (try split) <;> omega
      rw [e1, e2]
      exact he _ (by omega)
    have hm : det n (mn A i) = det n (mn A (i + 1)) := by
      refine det_congr fun r c hr hc => ?_
      simp only [mn]
      unfold sk
      by_cases h1 : c < i
      · rw [if_pos h1, if_pos (by omega)]
      · rw [if_neg h1]
        by_cases h2 : c = i
        · subst h2; rw [if_pos (by omega)]; exact (he _ (by omega)).symm
        · rw [if_neg (by omega)]
    rw [det]
    have hs : sm (n + 1) (fun j => sg j * A 0 j * det n (mn A j)) = sm (n + 1) (fun j => (if j = i then sg i * A 0 i * det n (mn A i) else 0) + (if j = i + 1 then sg (i + 1) * A 0 (i + 1) * det n (mn A (i + 1)) else 0)) := by
      refine sm_congr fun j hj => ?_
      by_cases h1 : j = i
      · subst h1; rw [if_pos rfl, if_neg (by omega)]; omega
      · by_cases h2 : j = i + 1
        · subst h2; rw [if_neg h1, if_pos rfl]; omega
        · rw [if_neg h1, if_neg h2, hz j hj h1 h2]; simp
    rw [hs, sm_add, sm_one (f := fun _ => sg i * A 0 i * det n (mn A i)) (by omega), sm_one (f := fun _ => sg (i + 1) * A 0 (i + 1) * det n (mn A (i + 1))) h, sg_succ, hm, ← he 0 (by omega)]
    grind
theorem tp_am (n : Nat) : Am n fun A => det n (tp A) := by
  refine ⟨fun A B he => det_congr fun r c hr hc => he c r hc hr, fun A i s t v w hi => ?_, fun A i hi he => det_col_adj hi fun r hr => he r hr⟩
  exact det_col_lin (tp A) s t v w hi
theorem det_tp (n : Nat) (A : Mx) : det n (tp A) = det n A := by
  have h : det n (tp A) = det n A * det n (tp one) := (tp_am n).uniq A
  rw [h]
  have : det n (tp one) = 1 := by
    rw [← det_one n]
    exact det_congr fun r c _ _ => by unfold tp one; exact if_iff (by omega)
  rw [this, Int.mul_one]
end Dt
