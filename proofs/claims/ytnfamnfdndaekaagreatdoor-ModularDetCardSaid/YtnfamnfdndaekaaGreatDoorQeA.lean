/- Matrices modulo a number: what row operations keep. -/
import Derived.Test.YtnfamnfdndaekaaGreatDoorQaC
import Derived.Test.YtnfamnfdndaekaaGreatDoorQbA
namespace Dt
set_option linter.unusedVariables false
set_option linter.unusedSimpArgs false

def Cg (p a b : Int) : Prop := p ∣ a - b
theorem Cg.refl (p a : Int) : Cg p a a := ⟨0, by omega⟩
theorem Cg.symm {p a b : Int} (h : Cg p a b) : Cg p b a := by obtain ⟨k, hk⟩ := h; exact ⟨-k, by rw [Int.mul_neg]; omega⟩
theorem Cg.trans {p a b c : Int} (h : Cg p a b) (h' : Cg p b c) : Cg p a c := by
  obtain ⟨k, hk⟩ := h; obtain ⟨m, hm⟩ := h'; exact ⟨k + m, by rw [Int.mul_add]; omega⟩
theorem Cg.add {p a b c d : Int} (h : Cg p a b) (h' : Cg p c d) : Cg p (a + c) (b + d) := by
  obtain ⟨k, hk⟩ := h; obtain ⟨m, hm⟩ := h'; exact ⟨k + m, by rw [Int.mul_add]; omega⟩
theorem Cg.sub {p a b c d : Int} (h : Cg p a b) (h' : Cg p c d) : Cg p (a - c) (b - d) := by
  obtain ⟨k, hk⟩ := h; obtain ⟨m, hm⟩ := h'; exact ⟨k - m, by rw [Int.mul_sub]; omega⟩
theorem Cg.neg {p a b : Int} (h : Cg p a b) : Cg p (-a) (-b) := by
  obtain ⟨k, hk⟩ := h; exact ⟨-k, by rw [Int.mul_neg]; omega⟩
theorem Cg.mul {p a b c d : Int} (h : Cg p a b) (h' : Cg p c d) : Cg p (a * c) (b * d) := by
  obtain ⟨k, hk⟩ := h; obtain ⟨m, hm⟩ := h'
  refine ⟨k * c + b * m, ?_⟩
  have e : a * c - b * d = (a - b) * c + b * (c - d) := by grind
  rw [e, hk, hm]
  grind
theorem Cg.mod (p a : Int) : Cg p (a % p) a := by
  refine ⟨-(a / p), ?_⟩
  have := Int.mul_ediv_add_emod a p
  rw [Int.mul_neg]
  omega
theorem Cg.iff {p a b : Int} : Cg p a b ↔ a % p = b % p := by
  constructor
  · rintro ⟨k, hk⟩
    have : a = b + p * k := by omega
    rw [this, Int.add_mul_emod_self_left]
  · intro h
    exact ((Cg.mod p a).symm.trans (h ▸ Cg.refl p _)).trans (Cg.mod p b)
theorem Cg.zero {p a : Int} : Cg p a 0 ↔ a % p = 0 := by rw [Cg.iff]; simp
theorem Cg.eq {p a b : Int} (h : Cg p a b) (ha : 0 ≤ a ∧ a < p) (hb : 0 ≤ b ∧ b < p) : a = b := by
  have := Cg.iff.1 h
  rwa [Int.emod_eq_of_lt ha.1 ha.2, Int.emod_eq_of_lt hb.1 hb.2] at this
theorem Cg.sm {p : Int} {n : Nat} {f g : Nat → Int} (h : ∀ i, i < n → Cg p (f i) (g i)) : Cg p (sm n f) (sm n g) := by
  induction n with
  | zero => exact .refl _ _
  | succ n ih => exact (ih fun i hi => h i (by omega)).add (h n (by omega))
theorem Cg.det {p : Int} : ∀ {n : Nat} {A B : Mx}, (∀ i j, i < n → j < n → Cg p (A i j) (B i j)) → Cg p (det n A) (det n B)
  | 0, _, _, _ => .refl _ _
  | n + 1, A, B, h => by
    rw [Dt.det, Dt.det]
    refine Cg.sm fun j hj => ?_
    exact ((Cg.refl p _).mul (h 0 j (by omega) hj)).mul (Cg.det fun i k hi hk => h _ _ (by omega) (sk_lt hj hk))

/-- x is mapped to zero -/
def Nl (p : Int) (n w : Nat) (M : Mx) (x : Nat → Int) : Prop := ∀ r, r < n → Cg p (sm w fun c => M r c * x c) 0
/-- the rows of one matrix are combinations of the other's, and the other way round -/
def Rq (p : Int) (n w : Nat) (M M' : Mx) : Prop := ∀ x, Nl p n w M x ↔ Nl p n w M' x
theorem Rq.refl (p : Int) (n w : Nat) (M : Mx) : Rq p n w M M := fun _ => Iff.rfl
theorem Rq.trans {p : Int} {n w : Nat} {A B C : Mx} (h : Rq p n w A B) (h' : Rq p n w B C) : Rq p n w A C := fun x => (h x).trans (h' x)
theorem Rq.symm {p : Int} {n w : Nat} {A B : Mx} (h : Rq p n w A B) : Rq p n w B A := fun x => (h x).symm
theorem Rq.cg {p : Int} {n w : Nat} {A B : Mx} (h : ∀ r c, r < n → c < w → Cg p (A r c) (B r c)) : Rq p n w A B := by
  intro x
  have e : ∀ r, r < n → Cg p (sm w fun c => A r c * x c) (sm w fun c => B r c * x c) := fun r hr => Cg.sm fun c hc => (h r c hr hc).mul (.refl _ _)
  exact ⟨fun hA r hr => (e r hr).symm.trans (hA r hr), fun hB r hr => (e r hr).trans (hB r hr)⟩
theorem Rq.sw {p : Int} {n w : Nat} (A : Mx) {i k : Nat} (hi : i < n) (hk : k < n) : Rq p n w A (sw A i k) := by
  intro x
  constructor
  · intro h r hr
    unfold Dt.sw
    by_cases h1 : r = i
    · simp only [h1, if_true]; exact h k hk
    · by_cases h2 : r = k
      · simp only [h1, if_false]; simp only [h2, if_true]; exact h i hi
      · simp only [h1, h2, if_false]; exact h r hr
  · intro h r hr
    by_cases h1 : r = i
    · by_cases h2 : i = k
      · have := h r hr
        unfold Dt.sw at this
        subst h1; subst h2; simpa using this
      · have := h k hk
        unfold Dt.sw at this
        rw [h1]
        simpa [Ne.symm h2] using this
    · by_cases h2 : r = k
      · have := h i hi
        unfold Dt.sw at this
        rw [h2]
        simpa using this
      · have := h r hr
        unfold Dt.sw at this
        simpa [h1, h2] using this
theorem sm_scale (w : Nat) (f : Int) (v x : Nat → Int) : sm w (fun c => f * v c * x c) = f * sm w (fun c => v c * x c) := by
  rw [← sm_mul]; exact sm_congr fun c _ => by grind
theorem Rq.scale {p : Int} {n w : Nat} (A : Mx) {i : Nat} (hi : i < n) {f g : Int} (hfg : Cg p (g * f) 1) : Rq p n w A (up A i (fun c => f * A i c)) := by
  intro x
  constructor
  · intro h r hr
    by_cases h1 : r = i
    · subst h1
      simp only [up_in]
      rw [sm_scale]
      have := (Cg.refl p f).mul (h r hr)
      simpa using this
    · simp only [up_out h1]; exact h r hr
  · intro h r hr
    have h2 := h r hr
    by_cases h1 : r = i
    · subst h1
      simp only [up_in] at h2
      rw [sm_scale] at h2
      have h3 := (Cg.refl p g).mul h2
      rw [Int.mul_zero, ← Int.mul_assoc] at h3
      have h4 := hfg.mul (Cg.refl p (sm w fun c => A r c * x c))
      rw [Int.one_mul] at h4
      exact h4.symm.trans h3
    · simp only [up_out h1] at h2; exact h2
theorem sm_comb (w : Nat) (f : Int) (u v x : Nat → Int) : sm w (fun c => (u c + f * v c) * x c) = sm w (fun c => u c * x c) + f * sm w (fun c => v c * x c) := by
  rw [← sm_mul, ← sm_add]; exact sm_congr fun c _ => by grind
theorem Rq.add {p : Int} {n w : Nat} (A : Mx) {i k : Nat} (hi : i < n) (hk : k < n) (hik : i ≠ k) (f : Int) : Rq p n w A (up A i (fun c => A i c + f * A k c)) := by
  intro x
  constructor
  · intro h r hr
    by_cases h1 : r = i
    · subst h1
      simp only [up_in]
      rw [sm_comb]
      have := (h r hr).add ((Cg.refl p f).mul (h k hk))
      simpa using this
    · simp only [up_out h1]; exact h r hr
  · intro h r hr
    have h2 := h r hr
    by_cases h1 : r = i
    · subst h1
      simp only [up_in] at h2
      rw [sm_comb] at h2
      have h3 := h k hk
      simp only [up_out (Ne.symm hik)] at h3
      have := h2.sub ((Cg.refl p f).mul h3)
      simp only [Int.mul_zero, Int.sub_zero] at this
      rwa [Int.add_sub_cancel] at this
    · simp only [up_out h1] at h2; exact h2
theorem Rq.adds {p : Int} {n w : Nat} (A : Mx) {k : Nat} (hk : k < n) (x : Nat → Int) : ∀ m, m ≤ n → Rq p n w A (adds A k x m) := by
  intro m
  induction m with
  | zero => exact fun _ => Rq.cg fun r c _ _ => by rw [adds_out (by omega)]; exact .refl _ _
  | succ m ih =>
    intro hm
    refine (ih (by omega)).trans ?_
    by_cases h0 : m = k
    · subst h0
      refine Rq.cg fun r c _ _ => ?_
      by_cases h1 : r ≠ m ∧ r < m
      · rw [adds_in h1, adds_in (by omega)]; exact .refl _ _
      · rw [adds_out h1, adds_out (by omega)]; exact .refl _ _
    · refine (Rq.add (p := p) (n := n) (w := w) (Dt.adds A k x m) (i := m) (k := k) (by omega) hk h0 (x m)).trans ?_
      refine Rq.cg fun r c _ _ => ?_
      by_cases hr : r = m
      · subst hr
        rw [adds_in (by omega), up_in, adds_out (by omega), adds_out (by omega)]; exact .refl _ _
      · rw [up_out hr]
        by_cases h1 : r ≠ k ∧ r < m
        · rw [adds_in h1, adds_in (by omega)]; exact .refl _ _
        · rw [adds_out h1, adds_out (by omega)]; exact .refl _ _
/-- one step of the elimination: row k is scaled, and taken off the others -/
theorem Rq.step {p : Int} {n w : Nat} (A : Mx) {k : Nat} (hk : k < n) {f g : Int} (hfg : Cg p (g * f) 1) (x : Nat → Int) : Rq p n w A (Dt.adds (up A k (fun c => f * A k c)) k x n) :=
  (Rq.scale A hk hfg).trans (Rq.adds _ hk x n (Nat.le_refl n))
theorem det_step {n : Nat} (A : Mx) {k : Nat} (hk : k < n) (f : Int) (x : Nat → Int) : det n (Dt.adds (up A k (fun c => f * A k c)) k x n) = f * det n A := by
  rw [(det_am n).adds _ hk x n (Nat.le_refl n), (det_am n).scale hk A f]
end Dt
