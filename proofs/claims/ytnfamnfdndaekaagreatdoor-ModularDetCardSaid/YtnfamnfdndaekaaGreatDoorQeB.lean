/- The reduced row echelon form modulo a prime: what it tells of kernel and solutions. -/
import Derived.Test.YtnfamnfdndaekaaGreatDoorQeA
namespace Dt
set_option linter.unusedVariables false
set_option linter.unusedSimpArgs false

/-- columns below c are done; k pivots, in columns col -/
structure Rre (p : Int) (n w : Nat) (M : Mx) (col : Nat → Nat) (k c : Nat) : Prop where
  kn : k ≤ n
  cw : c ≤ w
  lt : ∀ s, s < k → col s < c
  asc : ∀ s t, s < t → t < k → col s < col t
  unit : ∀ s r, s < k → r < n → M r (col s) = if r = s then 1 else 0
  zero : ∀ r j, k ≤ r → r < n → j < c → M r j = 0
  rng : ∀ r j, r < n → j < w → 0 ≤ M r j ∧ M r j < p
  lead : ∀ s j, s < k → j < col s → M s j = 0
section
variable {p : Int} {n w : Nat} {M : Mx} {col : Nat → Nat} {k c : Nat}
theorem Rre.ge (h : Rre p n w M col k c) : ∀ s, s < k → s ≤ col s := by
  intro s
  induction s with
  | zero => intro _; omega
  | succ s ih =>
    intro hs
    have h1 := ih (by omega)
    have h2 := h.asc s (s + 1) (by omega) hs
    omega
theorem Rre.kc (h : Rre p n w M col k c) : k ≤ c := by
  cases k with
  | zero => omega
  | succ k =>
    have h1 := h.ge k (by omega)
    have h2 := h.lt k (by omega)
    omega
/-- the first column that is no pivot -/
theorem Rre.first (h : Rre p n w M col k c) {fr : Nat} (h1 : ∀ s, s < fr → s < k ∧ col s = s) (h2 : fr < k → col fr ≠ fr) : ∀ s, s < k → col s ≠ fr := by
  intro s hs he
  by_cases hsf : s < fr
  · have := (h1 s hsf).2
    omega
  · have hfk : fr < k := by omega
    have h3 := h.ge fr hfk
    have h4 := h2 hfk
    by_cases hse : s = fr
    · subst hse; exact h4 he
    · have := h.asc fr s (by omega) hs
      omega
/-- a sum in which only the pivots' places and one more count -/
theorem sm_piv (k : Nat) (col : Nat → Nat) (hinj : ∀ s t, s < t → t < k → col s < col t) (w : Nat) (hw : ∀ s, s < k → col s < w) (g : Nat → Int) : ∀ m, m ≤ k → sm w (fun j => sm m fun s => if j = col s then g s else 0) = sm m g := by
  intro m
  induction m with
  | zero => exact fun _ => sm_zero fun j _ => rfl
  | succ m ih =>
    intro hm
    have e : sm w (fun j => sm (m + 1) fun s => if j = col s then g s else 0) = sm w (fun j => sm m fun s => if j = col s then g s else 0) + sm w (fun j => if j = col m then g m else 0) := by
      rw [← sm_add]; rfl
    rw [e, ih (by omega), sm_one (f := fun _ => g m) (hw m (by omega))]
    rfl
/-- the vector that has 1 at a column fr that is no pivot, and -M s fr at the pivots, is mapped to zero -/
theorem Rre.kernel (h : Rre p n w M col k w) {fr : Nat} (hfr : fr < w) (hno : ∀ s, s < k → col s ≠ fr) {v : Nat → Int} (h1 : v fr = 1) (hv : ∀ s, s < k → Cg p (v (col s)) (- M s fr)) (h0 : ∀ j, j < w → j ≠ fr → (∀ s, s < k → col s ≠ j) → v j = 0) : Nl p n w M v := by
  intro r hr
  by_cases hrk : r < k
  · -- the row of a pivot
    have hsum : sm w (fun j => M r j * v j) = sm w (fun j => (if j = fr then M r fr else 0) + (if j = col r then v (col r) else 0)) := by
      refine sm_congr fun j hj => ?_
      by_cases hjf : j = fr
      · subst hjf
        rw [if_pos rfl, if_neg (fun e => hno r hrk e.symm), h1]; omega
      · rw [if_neg hjf]
        by_cases hp : ∃ s, s < k ∧ col s = j
        · obtain ⟨s, hs, rfl⟩ := hp
          rw [h.unit s r hs hr]
          by_cases hrs : r = s
          · subst hrs; rw [if_pos rfl, if_pos rfl]; omega
          · rw [if_neg hrs, if_neg (fun e => hrs ?_)]
            · simp
            · rcases Nat.lt_trichotomy s r with h5 | h5 | h5
              · have := h.asc s r h5 hrk; omega
              · exact h5.symm
              · have := h.asc r s h5 hs; omega
        · have hz := h0 j hj hjf (fun s hs he => hp ⟨s, hs, he⟩)
          rw [hz, if_neg (fun e => hp ⟨r, hrk, e.symm⟩)]; simp
    rw [hsum, sm_add, sm_one (f := fun _ => M r fr) hfr, sm_one (f := fun _ => v (col r)) (h.lt r hrk)]
    have := (Cg.refl p (M r fr)).add (hv r hrk)
    rwa [Int.add_right_neg] at this
  · rw [sm_zero fun j hj => by rw [h.zero r j (by omega) hr hj, Int.zero_mul]]
    exact .refl _ _
/-- with a pivot in each column, only zero is mapped to zero -/
theorem Rre.only (h : Rre p n w M col w w) {v : Nat → Int} (hv : Nl p n w M v) : ∀ j, j < w → Cg p (v j) 0 := by
  have hid : ∀ s, s < w → col s = s := by
    intro s hs
    have h1 := h.ge s hs
    -- col s ≤ s: there is no room above
    have h2 : ∀ d, s + d < w → col s + d ≤ col (s + d) := by
      intro d
      induction d with
      | zero => intro _; exact Nat.le_refl _
      | succ d ih => intro hd; have := h.asc (s + d) (s + (d + 1)) (by omega) (by omega); have := ih (by omega); omega
    have h3 := h2 (w - 1 - s) (by omega)
    have h4 := h.lt (w - 1) (by omega)
    rw [show s + (w - 1 - s) = w - 1 by omega] at h3
    omega
  intro j hj
  have h1 := hv j (by have := h.kn; omega)
  have e : sm w (fun c => M j c * v c) = sm w (fun c => if c = j then v c else 0) := sm_congr fun c hc => by
    have := h.unit c j hc (by have := h.kn; omega)
    rw [hid c hc] at this
    rw [this]
    by_cases hcj : c = j
    · rw [if_pos hcj, if_pos hcj.symm, Int.one_mul]
    · rw [if_neg hcj, if_neg (fun e => hcj e.symm), Int.zero_mul]
  rw [e, sm_one (f := v) hj] at h1
  exact h1
/-- if each pivot stands in its own place, the last column is the solution -/
theorem Rre.solve {c : Nat} (h : Rre p n (n + 1) M col n c) (hcol : ∀ s, s < n → col s = s) {v : Nat → Int} (hv : ∀ j, j < n → v j = M j n) (hl : v n = -1) : Nl p n (n + 1) M v := by
  intro r hr
  have e : sm (n + 1) (fun c => M r c * v c) = sm n (fun c => if c = r then v c else 0) + M r n * v n := by
    rw [sm]
    congr 1
    refine sm_congr fun c hc => ?_
    have := h.unit c r hc hr
    rw [hcol c hc] at this
    rw [this]
    by_cases hcr : c = r
    · rw [if_pos hcr, if_pos hcr.symm, Int.one_mul]
    · rw [if_neg hcr, if_neg (fun e => hcr e.symm), Int.zero_mul]
  rw [e, sm_one (f := v) hr, hv r hr, hl]
  have : M r n + M r n * -1 = 0 := by omega
  rw [this]
  exact .refl _ _
end
end Dt
