/- Determinants of integer matrices, by expansion along the first row: linear and alternating in the rows. -/
import Derived.Test.YtnfamnfdndaekaaGreatDoorVcA
namespace Dt
set_option linter.unusedVariables false
set_option linter.unusedSimpArgs false

/-- sums -/
def sm : Nat → (Nat → Int) → Int
  | 0, _ => 0
  | n + 1, f => sm n f + f n
theorem sm_congr {n : Nat} {f g : Nat → Int} (h : ∀ i, i < n → f i = g i) : sm n f = sm n g := by
  induction n with
  | zero => rfl
  | succ n ih => rw [sm, sm, ih fun i hi => h i (by omega), h n (by omega)]
theorem sm_zero {n : Nat} {f : Nat → Int} (h : ∀ i, i < n → f i = 0) : sm n f = 0 := by
  induction n with
  | zero => rfl
  | succ n ih => rw [sm, ih fun i hi => h i (by omega), h n (by omega)]; rfl
theorem sm_add (n : Nat) (f g : Nat → Int) : sm n (fun i => f i + g i) = sm n f + sm n g := by
  induction n with
  | zero => rfl
  | succ n ih => simp only [sm, ih]; omega
theorem sm_mul (n : Nat) (c : Int) (f : Nat → Int) : sm n (fun i => c * f i) = c * sm n f := by
  induction n with
  | zero => simp [sm]
  | succ n ih => simp only [sm, ih, Int.mul_add]
theorem sm_mul' (n : Nat) (c : Int) (f : Nat → Int) : sm n (fun i => f i * c) = sm n f * c := by
  induction n with
  | zero => simp [sm]
  | succ n ih => simp only [sm, ih, Int.add_mul]
theorem sm_lin (n : Nat) (s t : Int) (f g : Nat → Int) : sm n (fun i => s * f i + t * g i) = s * sm n f + t * sm n g := by
  rw [sm_add, sm_mul, sm_mul]
theorem sm_swap (n m : Nat) (f : Nat → Nat → Int) : sm n (fun i => sm m fun j => f i j) = sm m (fun j => sm n fun i => f i j) := by
  induction n with
  | zero => exact (sm_zero (n := m) fun _ _ => rfl).symm
  | succ n ih => simp only [sm]; rw [ih, ← sm_add]
theorem sm_one {n a : Nat} {f : Nat → Int} (h : a < n) : sm n (fun i => if i = a then f i else 0) = f a := by
  induction n with
  | zero => omega
  | succ n ih =>
    rw [sm]
    by_cases ha : a = n
    · subst ha
      rw [sm_zero (fun i hi => if_neg (by omega)), if_pos rfl]; omega
    · rw [ih (by omega), if_neg (by omega)]; omega
/-- a sum over all pairs of different indices, both orders at once -/
theorem sm_tri (N : Nat) (F : Nat → Nat → Int) : sm (N + 1) (fun j => sm N fun k => F j k) = sm (N + 1) (fun j => sm j fun k => F j k + F k (j - 1)) := by
  induction N with
  | zero => rfl
  | succ N ih =>
    have h1 : sm (N + 1) (fun j => sm (N + 1) fun k => F j k) = sm (N + 1) (fun j => sm N fun k => F j k) + sm (N + 1) (fun j => F j N) := by
      rw [← sm_add]; exact sm_congr fun j _ => rfl
    have h2 : ∀ G : Nat → Int, sm (N + 1 + 1) G = sm (N + 1) G + G (N + 1) := fun _ => rfl
    have h3 : sm (N + 1) (fun k => F (N + 1) k + F k N) = sm (N + 1) (fun k => F (N + 1) k) + sm (N + 1) (fun k => F k N) := sm_add _ _ _
    rw [h2, h2 (fun j => sm j fun k => F j k + F k (j - 1)), ← ih, h1, show N + 1 - 1 = N from rfl, h3]
    omega

abbrev Mx := Nat → Nat → Int
def sk (j k : Nat) : Nat := if k < j then k else k + 1
def mn (A : Mx) (j : Nat) : Mx := fun r c => A (r + 1) (sk j c)
def sg (j : Nat) : Int := if j % 2 = 0 then 1 else -1
theorem sg_succ (j : Nat) : sg (j + 1) = - sg j := by
  unfold sg
  by_cases h : j % 2 = 0
  · rw [if_pos h, if_neg (by omega)]
  · rw [if_neg h, if_pos (by omega)]; rfl
def det : Nat → Mx → Int
  | 0, _ => 1
  | n + 1, A => sm (n + 1) fun j => sg j * A 0 j * det n (mn A j)
theorem sk_lt {j k n : Nat} (hj : j < n + 1) (hk : k < n) : sk j k < n + 1 := by unfold sk; split <;> omega
theorem det_congr : ∀ {n : Nat} {A B : Mx}, (∀ i j, i < n → j < n → A i j = B i j) → det n A = det n B
  | 0, _, _, _ => rfl
  | n + 1, A, B, h => by
    rw [det, det]
    refine sm_congr fun j hj => ?_
    rw [h 0 j (by omega) hj, det_congr (A := mn A j) (B := mn B j) fun i k hi hk => h _ _ (by omega) (sk_lt hj hk)]
/-- a row is replaced -/
def up (A : Mx) (i : Nat) (v : Nat → Int) : Mx := fun r c => if r = i then v c else A r c
theorem mn_up0 (A : Mx) (v : Nat → Int) (j : Nat) : mn (up A 0 v) j = mn A j := by funext r c; simp [mn, up]
theorem mn_up (A : Mx) (i : Nat) (v : Nat → Int) (j : Nat) : mn (up A (i + 1) v) j = up (mn A j) i (fun c => v (sk j c)) := by funext r c; simp [mn, up]
theorem det_lin : ∀ {n i : Nat} (A : Mx) (s t : Int) (v w : Nat → Int), i < n → det n (up A i (fun c => s * v c + t * w c)) = s * det n (up A i v) + t * det n (up A i w)
  | 0, i, _, _, _, _, _, h => by omega
  | n + 1, 0, A, s, t, v, w, _ => by
    rw [det, det, det, ← sm_lin]
    refine sm_congr fun j hj => ?_
    rw [mn_up0, mn_up0, mn_up0]
    simp only [up, if_true]
    grind
  | n + 1, i + 1, A, s, t, v, w, h => by
    rw [det, det, det, ← sm_lin]
    refine sm_congr fun j hj => ?_
    rw [mn_up, mn_up, mn_up, det_lin (mn A j) s t (fun c => v (sk j c)) (fun c => w (sk j c)) (by omega)]
    simp only [up, show ¬ (0 = i + 1) by omega, if_false]
    grind
theorem mn_mn {A : Mx} {j k : Nat} (h : k < j) : ∀ r c, mn (mn A j) k r c = mn (mn A k) (j - 1) r c := by
  intro r c
  simp only [mn]
  congr 1
  unfold sk
  split <;> split <;> (try split) <;> (try split) <;> omega
/-- two adjacent rows are alike -/
theorem det_adj : ∀ {n i : Nat} {A : Mx}, i + 1 < n → (∀ c, c < n → A i c = A (i + 1) c) → det n A = 0
  | 0, _, _, h, _ => by omega
  | 1, _, _, h, _ => by omega
  | n + 2, 0, A, h, he => by
    have h1 : det (n + 2) A = sm (n + 2) fun j => sm (n + 1) fun k => (sg j * sg k) * (A 0 j * A 1 (sk j k)) * det n (mn (mn A j) k) := by
      rw [det]
      refine sm_congr fun j hj => ?_
      rw [det, ← sm_mul]
      refine sm_congr fun k hk => ?_
      have : mn A j 0 k = A 1 (sk j k) := rfl
      rw [this]
      grind
    rw [h1, sm_tri]
    refine sm_zero fun j hj => sm_zero fun k hk => ?_
    have hd : det n (mn (mn A j) k) = det n (mn (mn A k) (j - 1)) := det_congr fun r c _ _ => mn_mn hk r c
    have e1 : sk j k = k := by unfold sk; rw [if_pos hk]
    have e2 : sk k (j - 1) = j := by unfold sk; rw [if_neg (by omega)]; omega
    have e3 : sg j = - sg (j - 1) := by
      have := sg_succ (j - 1)
      rwa [show j - 1 + 1 = j by omega] at this
    rw [hd, e1, e2, ← he k (by omega), ← he j hj, e3]
    grind
  | n + 2, i + 1, A, h, he => by
    rw [det]
    refine sm_zero fun j hj => ?_
    rw [det_adj (i := i) (A := mn A j) (by omega) (fun c hc => he _ (sk_lt hj hc)), Int.mul_zero]

/-- forms that are linear in each row, and zero if two adjacent rows are alike -/
structure Am (n : Nat) (D : Mx → Int) : Prop where
  congr : ∀ A B, (∀ i j, i < n → j < n → A i j = B i j) → D A = D B
  lin : ∀ A i (s t : Int) v w, i < n → D (up A i (fun c => s * v c + t * w c)) = s * D (up A i v) + t * D (up A i w)
  adj : ∀ A i, i + 1 < n → (∀ c, c < n → A i c = A (i + 1) c) → D A = 0
theorem det_am (n : Nat) : Am n (det n) := ⟨fun A B h => det_congr h, fun A i s t v w h => det_lin A s t v w h, fun A i h he => det_adj h he⟩
theorem up_self (A : Mx) (i : Nat) : up A i (A i) = A := by funext r c; simp only [up]; split <;> simp_all
theorem up_up (A : Mx) (i : Nat) (v w : Nat → Int) : up (up A i v) i w = up A i w := by funext r c; simp only [up]; split <;> rfl
theorem up_comm (A : Mx) {i k : Nat} (h : i ≠ k) (v w : Nat → Int) : up (up A i v) k w = up (up A k w) i v := by
  funext r c; simp only [up]; by_cases h1 : r = k <;> by_cases h2 : r = i <;> simp [h1, h2] <;> omega
/-- rows i and k change places -/
def sw (A : Mx) (i k : Nat) : Mx := fun r c => if r = i then A k c else if r = k then A i c else A r c
section
variable {n : Nat} {D : Mx → Int}
theorem Am.add (h : Am n D) (A : Mx) {i : Nat} (hi : i < n) (v w : Nat → Int) : D (up A i (fun c => v c + w c)) = D (up A i v) + D (up A i w) := by
  have := h.lin A i 1 1 v w hi
  simpa using this
/-- if equal rows give zero, exchanged rows change the sign -/
theorem Am.sw_of (h : Am n D) {i k : Nat} (hi : i < n) (hk : k < n) (hik : i ≠ k) (he : ∀ A, (∀ c, c < n → A i c = A k c) → D A = 0) (A : Mx) : D (sw A i k) = - D A := by
  let u := A i
  let v := A k
  let F : (Nat → Int) → (Nat → Int) → Mx := fun x y => up (up A i x) k y
  have hz : ∀ x, D (F x x) = 0 := fun x => he _ (fun c _ => by simp [F, up, hik])
  have hl : ∀ x y z, D (F (fun c => x c + y c) z) = D (F x z) + D (F y z) := by
    intro x y z
    simp only [F]
    rw [up_comm A hik, up_comm A hik, up_comm A hik, h.add _ hi]
  have hr : ∀ x y z, D (F z (fun c => x c + y c)) = D (F z x) + D (F z y) := fun x y z => h.add _ hk _ _
  have h0 := hz (fun c => u c + v c)
  rw [hl, hr, hr, hz, hz] at h0
  have e1 : D (F u v) = D A := h.congr _ _ fun r c _ _ => by
    simp only [F, up]; split
    · rename_i h; subst h; rfl
    · split
      · rename_i h; subst h; rfl
      · rfl
  have e2 : D (F v u) = D (sw A i k) := h.congr _ _ fun r c _ _ => by
    simp only [F, up, sw]
    by_cases h1 : r = k
    · rw [if_pos h1, if_neg (by omega), if_pos h1]
    · rw [if_neg h1]
      by_cases h2 : r = i
      · rw [if_pos h2, if_pos h2]
      · rw [if_neg h2, if_neg h2, if_neg h1]
  omega
theorem Am.eq (h : Am n D) : ∀ (d i : Nat) (A : Mx), i + d + 1 < n → (∀ c, c < n → A i c = A (i + d + 1) c) → D A = 0 := by
  intro d
  induction d with
  | zero => exact fun i A hi he => h.adj A i hi he
  | succ d ih =>
    intro i A hi he
    have hs := h.sw_of (i := i + d + 1) (k := i + d + 2) (by omega) (by omega) (by omega) (fun B hB => h.adj B (i + d + 1) (by omega) hB) A
    have hz := ih i (sw A (i + d + 1) (i + d + 2)) (by omega) (fun c hc => by
      simp only [sw]
      rw [if_neg (by omega), if_neg (by omega)]
      simp only [if_true]
      exact he c hc)
    rw [hz] at hs
    omega
theorem Am.equal (h : Am n D) {i k : Nat} (hi : i < n) (hk : k < n) (hik : i ≠ k) (A : Mx) (he : ∀ c, c < n → A i c = A k c) : D A = 0 := by
  by_cases hlt : i < k
  · have := h.eq (k - i - 1) i A (by omega) (fun c hc => by rw [show i + (k - i - 1) + 1 = k by omega]; exact he c hc)
    exact this
  · have := h.eq (i - k - 1) k A (by omega) (fun c hc => by rw [show k + (i - k - 1) + 1 = i by omega]; exact (he c hc).symm)
    exact this
/-- exchanged rows change the sign -/
theorem Am.swap (h : Am n D) {i k : Nat} (hi : i < n) (hk : k < n) (hik : i ≠ k) (A : Mx) : D (sw A i k) = - D A :=
  h.sw_of hi hk hik (fun B hB => h.equal hi hk hik B hB) A
/-- a multiple of another row may be added -/
theorem Am.addrow (h : Am n D) {i k : Nat} (hi : i < n) (hk : k < n) (hik : i ≠ k) (A : Mx) (t : Int) : D (up A i (fun c => A i c + t * A k c)) = D A := by
  have h1 := h.lin A i 1 t (A i) (A k) hi
  have h2 : D (up A i (A k)) = 0 := h.equal hi hk hik _ (fun c _ => by simp [up, Ne.symm hik])
  rw [h2, up_self] at h1
  simpa using h1
theorem Am.scale (h : Am n D) {i : Nat} (hi : i < n) (A : Mx) (t : Int) : D (up A i (fun c => t * A i c)) = t * D A := by
  have h1 := h.lin A i t 0 (A i) (A i) hi
  rw [up_self] at h1
  simpa using h1
theorem Am.zero (h : Am n D) {i : Nat} (hi : i < n) (A : Mx) (he : ∀ c, c < n → A i c = 0) : D A = 0 := by
  have h1 := h.scale hi A 0
  have h2 : D (up A i (fun c => 0 * A i c)) = D A := h.congr _ _ fun r c hr hc => by
    simp only [up]; split
    · rename_i e; subst e; rw [he c hc]; rfl
    · rfl
  rw [h2] at h1
  simpa using h1
/-- a row that is a sum -/
theorem Am.sum (h : Am n D) {i : Nat} (hi : i < n) (A : Mx) : ∀ (m : Nat) (x : Nat → Int) (V : Nat → Nat → Int), D (up A i (fun c => sm m fun j => x j * V j c)) = sm m fun j => x j * D (up A i (V j)) := by
  intro m x V
  induction m with
  | zero => exact h.zero hi _ (fun c _ => by simp [up, sm])
  | succ m ih =>
    simp only [sm]
    rw [h.add A hi (fun c => sm m fun j => x j * V j c) (fun c => x m * V m c), ih]
    congr 1
    have := h.lin A i (x m) 0 (V m) (V m) hi
    simpa using this
end
end Dt
