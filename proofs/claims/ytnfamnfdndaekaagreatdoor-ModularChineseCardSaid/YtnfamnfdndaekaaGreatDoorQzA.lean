/- Determinants of integer matrices, by expansion along the first row: linear and alternating in the rows. -/
import Derived.Test.YtnfamnfdndaekaaGreatDoorVcA
import Derived.KernelRfl
set_option linter.unusedVariables false
set_option linter.unusedSimpArgs false
namespace Dt

/-- sums -/
def sm : Nat → (Nat → Int) → Int
  | 0, _ => 0
  | n + 1, f => sm n f + f n
theorem sm_congr {n : Nat} {f g : Nat → Int} (h : ∀ i, i < n → f i = g i) : sm n f = sm n g := by
  induction n with
  | zero => rfl
  | succ n ih => rw [sm, sm, ih fun i hi => h i (by omega), h n (by omega)]
theorem sm_zero {n : Nat} {f : Nat → Int} (h : ∀ i, i < n → f i = 0) : sm n f = 0 := by
  induction n with
  | zero => rfl
  | succ n ih => rw [sm, ih fun i hi => h i (by omega), h n (by omega)]; rfl
theorem sm_add (n : Nat) (f g : Nat → Int) : sm n (fun i => f i + g i) = sm n f + sm n g := by
  induction n with
  | zero => rfl
  | succ n ih => simp only [sm, ih]; omega
theorem sm_mul (n : Nat) (c : Int) (f : Nat → Int) : sm n (fun i => c * f i) = c * sm n f := by
  induction n with
  | zero => simp [sm]
  | succ n ih => simp only [sm, ih, Int.mul_add]
theorem sm_mul' (n : Nat) (c : Int) (f : Nat → Int) : sm n (fun i => f i * c) = sm n f * c := by
  induction n with
  | zero => simp [sm]
  | succ n ih => simp only [sm, ih, Int.add_mul]
theorem sm_lin (n : Nat) (s t : Int) (f g : Nat → Int) : sm n (fun i => s * f i + t * g i) = s * sm n f + t * sm n g := by
  rw [sm_add, sm_mul, sm_mul]
theorem sm_swap (n m : Nat) (f : Nat → Nat → Int) : sm n (fun i => sm m fun j => f i j) = sm m (fun j => sm n fun i => f i j) := by
  induction n with
  | zero => exact (sm_zero (n := m) fun _ _ => rfl).symm
  | succ n ih => simp only [sm]; rw [ih, ← sm_add]
theorem sm_one {n a : Nat} {f : Nat → Int} (h : a < n) : sm n (fun i => if i = a then f i else 0) = f a := by
  induction n with
  | zero => omega
  | succ n ih =>
    rw [sm]
    by_cases ha : a = n
    · subst ha
      rw [sm_zero (fun i hi => if_neg (by omega)), if_pos rfl]; omega
    · rw [ih (by omega), if_neg (by omega)]; omega
/-- a sum over all pairs of different indices, both orders at once -/
theorem sm_tri (N : Nat) (F : Nat → Nat → Int) : sm (N + 1) (fun j => sm N fun k => F j k) = sm (N + 1) (fun j => sm j fun k => F j k + F k (j - 1)) := by
  induction N with
  | zero => rfl
  | succ N ih =>
    have h1 : sm (N + 1) (fun j => sm (N + 1) fun k => F j k) = sm (N + 1) (fun j => sm N fun k => F j k) + sm (N + 1) (fun j => F j N) := by
      rw [← sm_add]; exact sm_congr fun j _ => rfl
    have h2 : ∀ G : Nat → Int, sm (N + 1 + 1) G = sm (N + 1) G + G (N + 1) := fun _ => rfl
    have h3 : sm (N + 1) (fun k => F (N + 1) k + F k N) = sm (N + 1) (fun k => F (N + 1) k) + sm (N + 1) (fun k => F k N) := sm_add _ _ _
    rw [h2, h2 (fun j => sm j fun k => F j k + F k (j - 1)), ← ih, h1, show N + 1 - 1 = N from rfl, h3]
    omega

abbrev Mx := Nat → Nat → Int
def sk (j k : Nat) : Nat := if k < j then k else k + 1
def mn (A : Mx) (j : Nat) : Mx := fun r c => A (r + 1) (sk j c)
def sg (j : Nat) : Int := if j % 2 = 0 then 1 else -1
theorem sg_succ (j : Nat) : sg (j + 1) = - sg j := by
  unfold sg
  by_cases h : j % 2 = 0
  · rw [if_pos h, if_neg (by omega)]
  · rw [if_neg h, if_pos (by omega)]; rfl
def det : Nat → Mx → Int
  | 0, _ => 1
  | n + 1, A => sm (n + 1) fun j => sg j * A 0 j * det n (mn A j)
theorem sk_lt {j k n : Nat} (hj : j < n + 1) (hk : k < n) : sk j k < n + 1 := by unfold sk; split <;> omega
theorem det_congr : ∀ {n : Nat} {A B : Mx}, (∀ i j, i < n → j < n → A i j = B i j) → det n A = det n B
  | 0, _, _, _ => rfl
  | n + 1, A, B, h => by
    rw [det, det]
    refine sm_congr fun j hj => ?_
    rw [h 0 j (by omega) hj, det_congr (A := mn A j) (B := mn B j) fun i k hi hk => h _ _ (by omega) (sk_lt hj hk)]
/-- a row is replaced -/
def up (A : Mx) (i : Nat) (v : Nat → Int) : Mx := fun r c => if r = i then v c else A r c
theorem mn_up0 (A : Mx) (v : Nat → Int) (j : Nat) : mn (up A 0 v) j = mn A j := by funext r c; simp [mn, up]
theorem mn_up (A : Mx) (i : Nat) (v : Nat → Int) (j : Nat) : mn (up A (i + 1) v) j = up (mn A j) i (fun c => v (sk j c)) := by funext r c; simp [mn, up]
theorem det_lin : ∀ {n i : Nat} (A : Mx) (s t : Int) (v w : Nat → Int), i < n → det n (up A i (fun c => s * v c + t * w c)) = s * det n (up A i v) + t * det n (up A i w)
  | 0, i, _, _, _, _, _, h => by omega
  | n + 1, 0, A, s, t, v, w, _ => by
    rw [det, det, det, ← sm_lin]
    refine sm_congr fun j hj => ?_
    rw [mn_up0, mn_up0, mn_up0]
    simp only [up, if_true]
    grind
  | n + 1, i + 1, A, s, t, v, w, h => by
    rw [det, det, det, ← sm_lin]
    refine sm_congr fun j hj => ?_
    rw [mn_up, mn_up, mn_up, det_lin (mn A j) s t (fun c => v (sk j c)) (fun c => w (sk j c)) (by omega)]
    simp only [up, show ¬ (0 = i + 1) by omega, if_false]
    grind
theorem mn_mn {A : Mx} {j k : Nat} (h : k < j) : ∀ r c, mn (mn A j) k r c = mn (mn A k) (j - 1) r c := by
  intro r c
  simp only [mn]
  congr 1
  unfold sk
  split <;> split <;> (try split) <;> (try split) <;> omega
/-- two adjacent rows are alike -/
theorem det_adj : ∀ {n i : Nat} {A : Mx}, i + 1 < n → (∀ c, c < n → A i c = A (i + 1) c) → det n A = 0
  | 0, _, _, h, _ => by omega
  | 1, _, _, h, _ => by omega
  | n + 2, 0, A, h, he => by
    have h1 : det (n + 2) A = sm (n + 2) fun j => sm (n + 1) fun k => (sg j * sg k) * (A 0 j * A 1 (sk j k)) * det n (mn (mn A j) k) := by
      rw [det]
      refine sm_congr fun j hj => ?_
      rw [det, ← sm_mul]
      refine sm_congr fun k hk => ?_
      have : mn A j 0 k = A 1 (sk j k) := rfl
      rw [this]
      grind
    rw [h1, sm_tri]
    refine sm_zero fun j hj => sm_zero fun k hk => ?_
    have hd : det n (mn (mn A j) k) = det n (mn (mn A k) (j - 1)) := det_congr fun r c _ _ => mn_mn hk r c
    have e1 : sk j k = k := by unfold sk; rw [if_pos hk]
    have e2 : sk k (j - 1) = j := by unfold sk; rw [if_neg (by omega)]; omega
    have e3 : sg j = - sg (j - 1) := by
      have := sg_succ (j - 1)
      rwa [show j - 1 + 1 = j by omega] at this
    rw [hd, e1, e2, ← he k (by omega), ← he j hj, e3]
    grind
  | n + 2, i + 1, A, h, he => by
    rw [det]
    refine sm_zero fun j hj => ?_
    rw [det_adj (i := i) (A := mn A j) (by omega) (fun c hc => he _ (sk_lt hj hc)), Int.mul_zero]

/-- forms that are linear in each row, and zero if two adjacent rows are alike -/
structure Am (n : Nat) (D : Mx → Int) : Prop where
  congr : ∀ A B, (∀ i j, i < n → j < n → A i j = B i j) → D A = D B
  lin : ∀ A i (s t : Int) v w, i < n → D (up A i (fun c => s * v c + t * w c)) = s * D (up A i v) + t * D (up A i w)
  adj : ∀ A i, i + 1 < n → (∀ c, c < n → A i c = A (i + 1) c) → D A = 0
theorem det_am (n : Nat) : Am n (det n) := ⟨fun A B h => det_congr h, fun A i s t v w h => det_lin A s t v w h, fun A i h he => det_adj h he⟩
theorem up_self (A : Mx) (i : Nat) : up A i (A i) = A := by funext r c; simp only [up]; split <;> simp_all
theorem up_up (A : Mx) (i : Nat) (v w : Nat → Int) : up (up A i v) i w = up A i w := by funext r c; simp only [up]; split <;> rfl
theorem up_comm (A : Mx) {i k : Nat} (h : i ≠ k) (v w : Nat → Int) : up (up A i v) k w = up (up A k w) i v := by
  funext r c; simp only [up]; by_cases h1 : r = k <;> by_cases h2 : r = i <;> simp [h1, h2] <;> omega
/-- rows i and k change places -/
def sw (A : Mx) (i k : Nat) : Mx := fun r c => if r = i then A k c else if r = k then A i c else A r c
section
variable {n : Nat} {D : Mx → Int}
theorem Am.add (h : Am n D) (A : Mx) {i : Nat} (hi : i < n) (v w : Nat → Int) : D (up A i (fun c => v c + w c)) = D (up A i v) + D (up A i w) := by
  have := h.lin A i 1 1 v w hi
  simpa using this
/-- if equal rows give zero, exchanged rows change the sign -/
theorem Am.sw_of (h : Am n D) {i k : Nat} (hi : i < n) (hk : k < n) (hik : i ≠ k) (he : ∀ A, (∀ c, c < n → A i c = A k c) → D A = 0) (A : Mx) : D (sw A i k) = - D A := by
  let u := A i
  let v := A k
  let F : (Nat → Int) → (Nat → Int) → Mx := fun x y => up (up A i x) k y
  have hz : ∀ x, D (F x x) = 0 := fun x => he _ (fun c _ => by simp [F, up, hik])
  have hl : ∀ x y z, D (F (fun c => x c + y c) z) = D (F x z) + D (F y z) := by
    intro x y z
    simp only [F]
    rw [up_comm A hik, up_comm A hik, up_comm A hik, h.add _ hi]
  have hr : ∀ x y z, D (F z (fun c => x c + y c)) = D (F z x) + D (F z y) := fun x y z => h.add _ hk _ _
  have h0 := hz (fun c => u c + v c)
  rw [hl, hr, hr, hz, hz] at h0
  have e1 : D (F u v) = D A := h.congr _ _ fun r c _ _ => by
    simp only [F, up]; split
    · rename_i h; subst h; rfl
    · split
      · rename_i h; subst h; rfl
      · rfl
  have e2 : D (F v u) = D (sw A i k) := h.congr _ _ fun r c _ _ => by
    simp only [F, up, sw]
    by_cases h1 : r = k
    · rw [if_pos h1, if_neg (by omega), if_pos h1]
    · rw [if_neg h1]
      by_cases h2 : r = i
      · rw [if_pos h2, if_pos h2]
      · rw [if_neg h2, if_neg h2, if_neg h1]
  omega
theorem Am.eq (h : Am n D) : ∀ (d i : Nat) (A : Mx), i + d + 1 < n → (∀ c, c < n → A i c = A (i + d + 1) c) → D A = 0 := by
  intro d
  induction d with
  | zero => exact fun i A hi he => h.adj A i hi he
  | succ d ih =>
    intro i A hi he
    have hs := h.sw_of (i := i + d + 1) (k := i + d + 2) (by omega) (by omega) (by omega) (fun B hB => h.adj B (i + d + 1) (by omega) hB) A
    have hz := ih i (sw A (i + d + 1) (i + d + 2)) (by omega) (fun c hc => by
      simp only [sw]
      rw [if_neg (by omega), if_neg (by omega)]
      simp only [if_true]
      exact he c hc)
    rw [hz] at hs
    omega
theorem Am.equal (h : Am n D) {i k : Nat} (hi : i < n) (hk : k < n) (hik : i ≠ k) (A : Mx) (he : ∀ c, c < n → A i c = A k c) : D A = 0 := by
  by_cases hlt : i < k
  · have := h.eq (k - i - 1) i A (by omega) (fun c hc => by rw [show i + (k - i - 1) + 1 = k by omega]; exact he c hc)
    exact this
  · have := h.eq (i - k - 1) k A (by omega) (fun c hc => by rw [show k + (i - k - 1) + 1 = i by omega]; exact (he c hc).symm)
    exact this
/-- exchanged rows change the sign -/
theorem Am.swap (h : Am n D) {i k : Nat} (hi : i < n) (hk : k < n) (hik : i ≠ k) (A : Mx) : D (sw A i k) = - D A :=
  h.sw_of hi hk hik (fun B hB => h.equal hi hk hik B hB) A
/-- a multiple of another row may be added -/
theorem Am.addrow (h : Am n D) {i k : Nat} (hi : i < n) (hk : k < n) (hik : i ≠ k) (A : Mx) (t : Int) : D (up A i (fun c => A i c + t * A k c)) = D A := by
  have h1 := h.lin A i 1 t (A i) (A k) hi
  have h2 : D (up A i (A k)) = 0 := h.equal hi hk hik _ (fun c _ => by simp [up, Ne.symm hik])
  rw [h2, up_self] at h1
  simpa using h1
theorem Am.scale (h : Am n D) {i : Nat} (hi : i < n) (A : Mx) (t : Int) : D (up A i (fun c => t * A i c)) = t * D A := by
  have h1 := h.lin A i t 0 (A i) (A i) hi
  rw [up_self] at h1
  simpa using h1
theorem Am.zero (h : Am n D) {i : Nat} (hi : i < n) (A : Mx) (he : ∀ c, c < n → A i c = 0) : D A = 0 := by
  have h1 := h.scale hi A 0
  have h2 : D (up A i (fun c => 0 * A i c)) = D A := h.congr _ _ fun r c hr hc => by
    simp only [up]; split
    · rename_i e; subst e; rw [he c hc]; rfl
    · rfl
  rw [h2] at h1
  simpa using h1
/-- a row that is a sum -/
theorem Am.sum (h : Am n D) {i : Nat} (hi : i < n) (A : Mx) : ∀ (m : Nat) (x : Nat → Int) (V : Nat → Nat → Int), D (up A i (fun c => sm m fun j => x j * V j c)) = sm m fun j => x j * D (up A i (V j)) := by
  intro m x V
  induction m with
  | zero => exact h.zero hi _ (fun c _ => by simp [up, sm])
  | succ m ih =>
    simp only [sm]
    rw [h.add A hi (fun c => sm m fun j => x j * V j c) (fun c => x m * V m c), ih]
    congr 1
    have := h.lin A i (x m) 0 (V m) (V m) hi
    simpa using this
end
end Dt
/- Determinants: the only form of its kind; products; transposes. -/
namespace Dt

def one : Mx := fun r c => if r = c then 1 else 0
def unit (j : Nat) : Nat → Int := fun c => if c = j then 1 else 0
/-- row 0 is a unit row, the others have zeros in its column -/
def ins (j : Nat) (M : Mx) : Mx := fun r c => if r = 0 then unit j c else if c = j then 0 else M (r - 1) (if c < j then c else c - 1)
theorem ins_sk (j : Nat) (M : Mx) (r c : Nat) : ins j M (r + 1) (sk j c) = M r c := by
  unfold ins sk
  rw [if_neg (by omega)]
  by_cases h : c < j
  · rw [if_pos h, if_neg (by omega), if_pos h]; rfl
  · rw [if_neg h, if_neg (by omega), if_neg (by omega)]; rfl
theorem mn_ins (j : Nat) (M : Mx) : mn (ins j M) j = M := by funext r c; exact ins_sk j M r c
theorem ins_up (j : Nat) (M : Mx) (i : Nat) (v : Nat → Int) : ins j (up M i v) = up (ins j M) (i + 1) (fun c => if c = j then 0 else v (if c < j then c else c - 1)) := by
  funext r c
  unfold ins up
  by_cases h0 : r = 0
  · subst h0; simp
  · by_cases h1 : r = i + 1
    · subst h1; simp
    · simp only [h0, h1, if_false]
      by_cases h2 : c = j
      · rw [if_pos h2, if_pos h2]
      · rw [if_neg h2, if_neg h2, if_neg (by omega)]
theorem ins_am {n : Nat} {D : Mx → Int} (h : Am (n + 1) D) {j : Nat} (hj : j < n + 1) : Am n fun M => D (ins j M) := by
  refine ⟨fun A B he => h.congr _ _ fun r c hr hc => ?_, fun A i s t v w hi => ?_, fun A i hi he => ?_⟩
  · unfold ins
    by_cases h0 : r = 0
    · rw [if_pos h0, if_pos h0]
    · rw [if_neg h0, if_neg h0]
      by_cases h2 : c = j
      · rw [if_pos h2, if_pos h2]
      · rw [if_neg h2, if_neg h2]
        refine he _ _ (by omega) ?_
        split <;> omega
  · simp only [ins_up]
    have := h.lin (ins j A) (i + 1) s t (fun c => if c = j then 0 else v (if c < j then c else c - 1)) (fun c => if c = j then 0 else w (if c < j then c else c - 1)) (by omega)
    rw [← this]
    congr 2
    funext c
    split
    · simp
    · rfl
  · refine h.adj (ins j A) (i + 1) (by omega) fun c hc => ?_
    have e : ∀ r, r ≠ 0 → ins j A r c = if c = j then 0 else A (r - 1) (if c < j then c else c - 1) := fun r hr => by unfold ins; rw [if_neg hr]
    rw [e _ (by omega), e _ (by omega)]
    by_cases h2 : c = j
    · rw [if_pos h2, if_pos h2]
    · rw [if_neg h2, if_neg h2]
      exact he _ (by split <;> omega)
/-- multiples of row 0 are added to the rows below m -/
def addm (A : Mx) (x : Nat → Int) (m : Nat) : Mx := fun r c => if 0 < r ∧ r < m then A r c + x r * A 0 c else A r c
theorem addm_in {A : Mx} {x : Nat → Int} {m r c : Nat} (h : 0 < r ∧ r < m) : addm A x m r c = A r c + x r * A 0 c := by unfold addm; rw [if_pos h]
theorem addm_out {A : Mx} {x : Nat → Int} {m r c : Nat} (h : ¬ (0 < r ∧ r < m)) : addm A x m r c = A r c := by unfold addm; rw [if_neg h]
theorem up_in {A : Mx} {i c : Nat} {v : Nat → Int} : up A i v i c = v c := by unfold up; rw [if_pos rfl]
theorem up_out {A : Mx} {i r c : Nat} {v : Nat → Int} (h : r ≠ i) : up A i v r c = A r c := by unfold up; rw [if_neg h]
theorem Am.addm {n : Nat} {D : Mx → Int} (h : Am n D) (A : Mx) (x : Nat → Int) : ∀ m, m ≤ n → D (addm A x m) = D A := by
  intro m
  induction m with
  | zero => exact fun _ => h.congr _ _ fun r c _ _ => addm_out (by omega)
  | succ m ih =>
    intro hm
    rw [← ih (by omega)]
    by_cases h0 : m = 0
    · subst h0
      exact h.congr _ _ fun r c _ _ => by rw [addm_out (by omega), addm_out (by omega)]
    · have := h.addrow (i := m) (k := 0) (by omega) (by omega) h0 (Dt.addm A x m) (x m)
      rw [← this]
      refine h.congr _ _ fun r c _ _ => ?_
      by_cases hr : r = m
      · subst hr
        rw [addm_in (by omega), up_in, addm_out (by omega), addm_out (by omega)]
      · rw [up_out hr]
        by_cases h1 : 0 < r ∧ r < m
        · rw [addm_in (by omega), addm_in h1]
        · rw [addm_out (by omega), addm_out h1]
theorem if_iff {p q : Prop} [Decidable p] [Decidable q] (h : p ↔ q) : (if p then (1 : Int) else 0) = if q then 1 else 0 := by
  by_cases hp : p
  · rw [if_pos hp, if_pos (h.1 hp)]
  · rw [if_neg hp, if_neg (fun hq => hp (h.2 hq))]
theorem ins_one (j r c : Nat) : ins j one r c = if (r = 0 ∧ c = j) ∨ (0 < r ∧ r ≤ j ∧ c + 1 = r) ∨ (j < r ∧ c = r) then 1 else 0 := by
  unfold ins one unit
  by_cases h0 : r = 0
  · rw [if_pos h0]
    exact if_iff (by omega)
  · rw [if_neg h0]
    by_cases h1 : c = j
    · rw [if_pos h1, if_neg (by omega)]
    · rw [if_neg h1]
      by_cases h2 : c < j
      · rw [if_pos h2]; exact if_iff (by omega)
      · rw [if_neg h2]; exact if_iff (by omega)
theorem det_ins_one {n : Nat} {D : Mx → Int} (h : Am (n + 1) D) : ∀ j, j < n + 1 → D (ins j one) = sg j * D one := by
  intro j
  induction j with
  | zero =>
    intro _
    rw [show sg 0 = 1 from rfl, Int.one_mul]
    refine h.congr _ _ fun r c _ _ => ?_
    rw [ins_one]
    unfold one
    exact if_iff (by omega)
  | succ j ih =>
    intro hj
    have hs := h.swap (i := 0) (k := j + 1) (by omega) hj (by omega) (ins j one)
    rw [ih (by omega)] at hs
    rw [sg_succ, Int.neg_mul, ← hs]
    refine h.congr _ _ fun r c _ _ => ?_
    show ins (j + 1) one r c = if r = 0 then ins j one (j + 1) c else if r = j + 1 then ins j one 0 c else ins j one r c
    by_cases h0 : r = 0
    · rw [if_pos h0, ins_one, ins_one]; exact if_iff (by omega)
    · rw [if_neg h0]
      by_cases h1 : r = j + 1
      · rw [if_pos h1, ins_one, ins_one]; exact if_iff (by omega)
      · rw [if_neg h1, ins_one, ins_one]; exact if_iff (by omega)
/-- a form that is linear and alternating in the rows is a multiple of the determinant -/
theorem Am.uniq : ∀ {n : Nat} {D : Mx → Int}, Am n D → ∀ A, D A = det n A * D one
  | 0, D, h, A => by
    rw [det, Int.one_mul]
    exact h.congr _ _ fun r c hr _ => by omega
  | n + 1, D, h, A => by
    have h0 : D A = sm (n + 1) fun j => A 0 j * D (up A 0 (unit j)) := by
      rw [← h.sum (by omega) A (n + 1) (A 0) unit]
      refine h.congr _ _ fun r c hr hc => ?_
      simp only [up]
      split
      · rename_i e
        subst e
        have := sm_one (n := n + 1) (a := c) (f := A 0) hc
        rw [← this]
        refine sm_congr fun i hi => ?_
        unfold unit
        by_cases e : i = c
        · rw [if_pos e, if_pos e.symm, Int.mul_one]
        · rw [if_neg e, if_neg (fun e' => e e'.symm), Int.mul_zero]
      · rfl
    rw [h0, det, ← sm_mul']
    refine sm_congr fun j hj => ?_
    have h1 : D (up A 0 (unit j)) = D (ins j (mn A j)) := by
      rw [← h.addm (ins j (mn A j)) (fun r => A r j) (n + 1) (by omega)]
      refine h.congr _ _ fun r c hr hc => ?_
      unfold Dt.addm up
      by_cases e0 : r = 0
      · subst e0
        rw [if_pos rfl, if_neg (by omega)]
        unfold ins
        rw [if_pos rfl]
      · rw [if_neg e0, if_pos (by omega)]
        unfold ins mn
        simp only [if_true, if_neg e0]
        unfold unit
        by_cases e : c = j
        · subst e; rw [if_pos rfl, if_pos rfl]; omega
        · rw [if_neg e, if_neg e, show r - 1 + 1 = r by omega]
          unfold sk
          by_cases e2 : c < j
          · rw [if_pos e2, if_pos e2]; omega
          · rw [if_neg e2, if_neg (by omega), show c - 1 + 1 = c by omega]; omega
    have h2 : D (ins j (mn A j)) = det n (mn A j) * D (ins j one) := Am.uniq (ins_am h hj) (mn A j)
    rw [h1, h2, det_ins_one h j hj]
    grind
theorem det_one : ∀ n, det n one = 1
  | 0 => rfl
  | n + 1 => by
    have h1 : det (n + 1) one = sm (n + 1) fun j => if j = 0 then det n (mn one 0) else 0 := by
      rw [det]
      refine sm_congr fun j hj => ?_
      unfold one
      by_cases h : j = 0
      · subst h; simp [sg]
      · rw [if_neg (by omega), if_neg h]; simp
    rw [h1, sm_one (f := fun _ => det n (mn one 0)) (by omega), ← det_one n]
    refine det_congr fun r c _ _ => ?_
    unfold mn one
    have : sk 0 c = c + 1 := rfl
    rw [this]
    exact if_iff (by omega)

/-- the product -/
def mul (n : Nat) (A B : Mx) : Mx := fun r c => sm n fun k => A r k * B k c
theorem mul_up (n : Nat) (A B : Mx) (i : Nat) (v : Nat → Int) : mul n (up A i v) B = up (mul n A B) i (fun c => sm n fun k => v k * B k c) := by
  funext r c
  unfold mul up
  by_cases h : r = i
  · simp only [if_pos h]
  · simp only [if_neg h]
theorem mul_am (n : Nat) (B : Mx) : Am n fun A => det n (mul n A B) := by
  refine ⟨fun A C he => det_congr fun r c hr hc => sm_congr fun k hk => by rw [he r k hr hk], fun A i s t v w hi => ?_, fun A i hi he => ?_⟩
  · simp only [mul_up]
    rw [← det_lin _ s t _ _ hi]
    congr 2
    funext c
    rw [← sm_lin]
    refine sm_congr fun k _ => ?_
    grind
  · refine det_adj hi fun c hc => sm_congr fun k hk => by rw [he k hk]
theorem one_mul {n : Nat} {B : Mx} {r c : Nat} (hr : r < n) : mul n one B r c = B r c := by
  unfold mul
  rw [← sm_one (f := fun k => B k c) hr]
  refine sm_congr fun k hk => ?_
  unfold one
  by_cases h : r = k
  · rw [if_pos h, if_pos h.symm, Int.one_mul]
  · rw [if_neg h, if_neg (fun e => h e.symm), Int.zero_mul]
/-- determinants are multiplicative -/
theorem det_mul (n : Nat) (A B : Mx) : det n (mul n A B) = det n A * det n B := by
  have h : det n (mul n A B) = det n A * det n (mul n one B) := (mul_am n B).uniq A
  rw [h]
  congr 1
  exact det_congr fun r c hr hc => one_mul hr

/-- the transpose -/
def tp (A : Mx) : Mx := fun r c => A c r
/-- linear in a column -/
theorem det_col_lin : ∀ {n i : Nat} (A : Mx) (s t : Int) (v w : Nat → Int), i < n → det n (tp (up (tp A) i (fun c => s * v c + t * w c))) = s * det n (tp (up (tp A) i v)) + t * det n (tp (up (tp A) i w))
  | 0, i, _, _, _, _, _, h => by omega
  | n + 1, i, A, s, t, v, w, h => by
    rw [det, det, det, ← sm_lin]
    refine sm_congr fun j hj => ?_
    by_cases hji : j = i
    · subst hji
      have e : ∀ x, mn (tp (up (tp A) j x)) j = mn A j := by
        intro x
        funext r c
        simp only [mn, tp, up]
        rw [if_neg]
        unfold sk
        split <;> omega
      rw [e, e, e]
      simp only [tp, up, if_true]
      grind
    · -- the column's place in the minor
      have e : ∀ x, mn (tp (up (tp A) i x)) j = tp (up (tp (mn A j)) (if i < j then i else i - 1) (fun c => x (c + 1))) := by
        intro x
        funext r c
        simp only [mn, tp, up]
        have : (sk j c = i) ↔ (c = if i < j then i else i - 1) := by
          unfold sk
          split <;> split <;> omega
        by_cases h1 : sk j c = i
        · rw [if_pos h1, if_pos (this.1 h1)]
        · rw [if_neg h1, if_neg (fun h2 => h1 (this.2 h2))]
      rw [e, e, e, det_col_lin (mn A j) s t (fun c => v (c + 1)) (fun c => w (c + 1)) (by split <;> omega)]
      have e2 : ∀ x, tp (up (tp A) i x) 0 j = A 0 j := by
        intro x
        simp only [tp, up]
        rw [if_neg hji]
      rw [e2, e2, e2]
      grind
/-- two adjacent columns are alike -/
theorem det_col_adj : ∀ {n i : Nat} {A : Mx}, i + 1 < n → (∀ r, r < n → A r i = A r (i + 1)) → det n A = 0
  | 0, _, _, h, _ => by omega
  | n + 1, i, A, h, he => by
    have hz : ∀ j, j < n + 1 → j ≠ i → j ≠ i + 1 → det n (mn A j) = 0 := by
      intro j hj h1 h2
      refine det_col_adj (i := if i < j then i else i - 1) (by split <;> omega) fun r hr => ?_
      simp only [mn]
      have e1 : sk j (if i < j then i else i - 1) = i := by unfold sk; split <;> (try split) <;> omega
      have e2 : sk j ((if i < j then i else i - 1) + 1) = i + 1 := by unfold sk; split <;> (try split) <;> omega
      rw [e1, e2]
      exact he _ (by omega)
    have hm : det n (mn A i) = det n (mn A (i + 1)) := by
      refine det_congr fun r c hr hc => ?_
      simp only [mn]
      unfold sk
      by_cases h1 : c < i
      · rw [if_pos h1, if_pos (by omega)]
      · rw [if_neg h1]
        by_cases h2 : c = i
        · subst h2; rw [if_pos (by omega)]; exact (he _ (by omega)).symm
        · rw [if_neg (by omega)]
    rw [det]
    have hs : sm (n + 1) (fun j => sg j * A 0 j * det n (mn A j)) = sm (n + 1) (fun j => (if j = i then sg i * A 0 i * det n (mn A i) else 0) + (if j = i + 1 then sg (i + 1) * A 0 (i + 1) * det n (mn A (i + 1)) else 0)) := by
      refine sm_congr fun j hj => ?_
      by_cases h1 : j = i
      · subst h1; rw [if_pos rfl, if_neg (by omega)]; omega
      · by_cases h2 : j = i + 1
        · subst h2; rw [if_neg h1, if_pos rfl]; omega
        · rw [if_neg h1, if_neg h2, hz j hj h1 h2]; simp
    rw [hs, sm_add, sm_one (f := fun _ => sg i * A 0 i * det n (mn A i)) (by omega), sm_one (f := fun _ => sg (i + 1) * A 0 (i + 1) * det n (mn A (i + 1))) h, sg_succ, hm, ← he 0 (by omega)]
    grind
theorem tp_am (n : Nat) : Am n fun A => det n (tp A) := by
  refine ⟨fun A B he => det_congr fun r c hr hc => he c r hc hr, fun A i s t v w hi => ?_, fun A i hi he => det_col_adj hi fun r hr => he r hr⟩
  exact det_col_lin (tp A) s t v w hi
theorem det_tp (n : Nat) (A : Mx) : det n (tp A) = det n A := by
  have h : det n (tp A) = det n A * det n (tp one) := (tp_am n).uniq A
  rw [h]
  have : det n (tp one) = 1 := by
    rw [← det_one n]
    exact det_congr fun r c _ _ => by unfold tp one; exact if_iff (by omega)
  rw [this, Int.mul_one]
end Dt
/- The adjugate; Cramer's rule; matrices with determinant other than zero. -/
namespace Dt

/-- multiples of row k are added to the rows below m -/
def adds (A : Mx) (k : Nat) (x : Nat → Int) (m : Nat) : Mx := fun r c => if r ≠ k ∧ r < m then A r c + x r * A k c else A r c
theorem adds_in {A : Mx} {x : Nat → Int} {k m r c : Nat} (h : r ≠ k ∧ r < m) : adds A k x m r c = A r c + x r * A k c := by unfold adds; rw [if_pos h]
theorem adds_out {A : Mx} {x : Nat → Int} {k m r c : Nat} (h : ¬ (r ≠ k ∧ r < m)) : adds A k x m r c = A r c := by unfold adds; rw [if_neg h]
theorem Am.adds {n : Nat} {D : Mx → Int} (h : Am n D) (A : Mx) {k : Nat} (hk : k < n) (x : Nat → Int) : ∀ m, m ≤ n → D (adds A k x m) = D A := by
  intro m
  induction m with
  | zero => exact fun _ => h.congr _ _ fun r c _ _ => adds_out (by omega)
  | succ m ih =>
    intro hm
    rw [← ih (by omega)]
    by_cases h0 : m = k
    · subst h0
      refine h.congr _ _ fun r c _ _ => ?_
      by_cases h1 : r ≠ m ∧ r < m + 1
      · rw [adds_in h1, adds_in (by omega)]
      · rw [adds_out h1, adds_out (by omega)]
    · have := h.addrow (i := m) (k := k) (by omega) hk h0 (Dt.adds A k x m) (x m)
      rw [← this]
      refine h.congr _ _ fun r c _ _ => ?_
      by_cases hr : r = m
      · subst hr
        rw [adds_in (by omega), up_in, adds_out (by omega), adds_out (by omega)]
      · rw [up_out hr]
        by_cases h1 : r ≠ k ∧ r < m
        · rw [adds_in (by omega), adds_in h1]
        · rw [adds_out (by omega), adds_out h1]
/-- row j is the unit row i, and nothing else is in column i -/
def cl (A : Mx) (j i : Nat) : Mx := fun r c => if r = j then unit i c else if c = i then 0 else A r c
theorem det_cl {n : Nat} (A : Mx) {j i : Nat} (hj : j < n) : det n (up A j (unit i)) = det n (cl A j i) := by
  rw [← (det_am n).adds (up A j (unit i)) hj (fun r => - A r i) n (by omega)]
  refine det_congr fun r c hr hc => ?_
  by_cases h : r = j
  · subst h
    rw [adds_out (by omega), up_in]
    unfold cl
    rw [if_pos rfl]
  · rw [adds_in ⟨h, hr⟩, up_out h, up_in]
    unfold cl unit
    rw [if_neg h]
    by_cases h2 : c = i
    · rw [if_pos h2, if_pos h2, h2]; omega
    · rw [if_neg h2, if_neg h2]; omega
/-- the adjugate -/
def adj (n : Nat) (A : Mx) : Mx := fun i j => det n (up A j (unit i))
theorem adj_tp {n : Nat} (A : Mx) {i j : Nat} (hi : i < n) (hj : j < n) : adj n (tp A) j i = adj n A i j := by
  unfold adj
  rw [det_cl _ hi, det_cl _ hj, ← det_tp n (cl (tp A) i j)]
  refine det_congr fun r c _ _ => ?_
  simp only [tp, cl, unit]
  by_cases h1 : c = i
  · rw [if_pos h1]
    by_cases h2 : r = j
    · rw [if_pos h2, if_pos h2, if_pos h1]
    · rw [if_neg h2, if_neg h2, if_pos h1]
  · rw [if_neg h1]
    by_cases h2 : r = j
    · rw [if_pos h2, if_pos h2, if_neg h1]
    · rw [if_neg h2, if_neg h2, if_neg h1]
/-- a row as a sum of unit rows -/
theorem row_sum {n : Nat} (v : Nat → Int) {c : Nat} (hc : c < n) : sm n (fun j => v j * unit j c) = v c := by
  rw [← sm_one (f := v) hc]
  refine sm_congr fun j _ => ?_
  unfold unit
  by_cases h : j = c
  · rw [if_pos h, if_pos h.symm, Int.mul_one]
  · rw [if_neg h, if_neg (fun e => h e.symm), Int.mul_zero]
theorem det_up_row {n : Nat} (A : Mx) {j : Nat} (hj : j < n) (v : Nat → Int) : sm n (fun c => v c * adj n A c j) = det n (up A j v) := by
  unfold adj
  rw [← (det_am n).sum hj A n v unit]
  refine det_congr fun r c hr hc => ?_
  by_cases h : r = j
  · subst h; rw [up_in, up_in]; exact row_sum v hc
  · rw [up_out h, up_out h]
/-- A adj(A) = det(A) -/
theorem mul_adj {n : Nat} (A : Mx) {r j : Nat} (hr : r < n) (hj : j < n) : sm n (fun c => A r c * adj n A c j) = if r = j then det n A else 0 := by
  rw [det_up_row A hj (A r)]
  by_cases h : r = j
  · subst h; rw [if_pos rfl, up_self]
  · rw [if_neg h]
    refine (det_am n).equal hr hj h _ fun c _ => ?_
    rw [up_out h, up_in]
/-- adj(A) A = det(A) -/
theorem adj_mul {n : Nat} (A : Mx) {i c : Nat} (hi : i < n) (hc : c < n) : sm n (fun j => adj n A i j * A j c) = if i = c then det n A else 0 := by
  have h := mul_adj (tp A) hc hi
  have e : sm n (fun j => tp A c j * adj n (tp A) j i) = sm n (fun j => adj n A i j * A j c) := sm_congr fun j hj => by
    rw [adj_tp A hi hj]
    show A j c * _ = _
    rw [Int.mul_comm]
  rw [← e, h, det_tp]
  by_cases h : i = c
  · rw [if_pos h, if_pos h.symm]
  · rw [if_neg h, if_neg (fun e => h e.symm)]
/-- the only row vector that a regular matrix maps to zero -/
theorem row_zero {n : Nat} {A : Mx} (hd : det n A ≠ 0) {w : Nat → Int} (h : ∀ c, c < n → sm n (fun r => w r * A r c) = 0) : ∀ r, r < n → w r = 0 := by
  intro i hi
  have h1 : sm n (fun c => sm n (fun r => w r * A r c) * adj n A c i) = 0 := sm_zero fun c hc => by rw [h c hc, Int.zero_mul]
  have h2 : sm n (fun c => sm n (fun r => w r * A r c) * adj n A c i) = w i * det n A := by
    have e : sm n (fun c => sm n (fun r => w r * A r c) * adj n A c i) = sm n (fun c => sm n fun r => w r * (A r c * adj n A c i)) := sm_congr fun c _ => by
      rw [← sm_mul']; exact sm_congr fun r _ => by grind
    rw [e, sm_swap]
    have e2 : sm n (fun r => sm n fun c => w r * (A r c * adj n A c i)) = sm n (fun r => if r = i then w r * det n A else 0) := sm_congr fun r hr => by
      rw [sm_mul, mul_adj A hr hi]
      by_cases h : r = i
      · rw [if_pos h, if_pos h]
      · rw [if_neg h, if_neg h, Int.mul_zero]
    rw [e2, sm_one (f := fun r => w r * det n A) hi]
  rw [h1] at h2
  rcases Int.mul_eq_zero.1 h2.symm with h3 | h3
  · exact h3
  · exact absurd h3 hd
/-- the only column vector that a regular matrix maps to zero -/
theorem col_zero {n : Nat} {A : Mx} (hd : det n A ≠ 0) {w : Nat → Int} (h : ∀ r, r < n → sm n (fun c => A r c * w c) = 0) : ∀ c, c < n → w c = 0 := by
  refine row_zero (A := tp A) (by rw [det_tp]; exact hd) fun c hc => ?_
  rw [← h c hc]
  exact sm_congr fun r _ => Int.mul_comm _ _
/-- Cramer's rule: with x the determinants where a column is replaced by b, A x = det(A) b -/
theorem cramer {n : Nat} (A : Mx) (b : Nat → Int) {r : Nat} (hr : r < n) : sm n (fun c => A r c * det n (tp (up (tp A) c b))) = det n A * b r := by
  have h1 : ∀ c, c < n → det n (tp (up (tp A) c b)) = sm n (fun j => adj n A c j * b j) := by
    intro c hc
    rw [det_tp, ← det_up_row (tp A) hc b]
    refine sm_congr fun j hj => ?_
    rw [adj_tp A hc hj, Int.mul_comm]
  have e : sm n (fun c => A r c * det n (tp (up (tp A) c b))) = sm n (fun c => sm n fun j => A r c * adj n A c j * b j) := sm_congr fun c hc => by
    rw [h1 c hc, ← sm_mul]; exact sm_congr fun j _ => by grind
  rw [e, sm_swap]
  have e2 : sm n (fun j => sm n fun c => A r c * adj n A c j * b j) = sm n (fun j => if j = r then det n A * b j else 0) := sm_congr fun j hj => by
    rw [sm_mul', mul_adj A hr hj]
    by_cases h : r = j
    · rw [if_pos h, if_pos h.symm]
    · rw [if_neg h, if_neg (fun e => h e.symm), Int.zero_mul]
  rw [e2, sm_one (f := fun j => det n A * b j) hr]
/-- a solution is the one of Cramer's rule -/
theorem cramer_uniq {n : Nat} (A : Mx) (x b : Nat → Int) (h : ∀ r, r < n → sm n (fun c => A r c * x c) = b r) {c : Nat} (hc : c < n) : det n A * x c = det n (tp (up (tp A) c b)) := by
  have h1 : det n (tp (up (tp A) c b)) = sm n (fun j => adj n A c j * b j) := by
    rw [det_tp, ← det_up_row (tp A) hc b]
    exact sm_congr fun j hj => by rw [adj_tp A hc hj, Int.mul_comm]
  rw [h1]
  have e : sm n (fun j => adj n A c j * b j) = sm n (fun j => sm n fun k => adj n A c j * A j k * x k) := sm_congr fun j hj => by
    rw [← h j hj, ← sm_mul]; exact sm_congr fun k _ => by grind
  rw [e, sm_swap]
  have e2 : sm n (fun k => sm n fun j => adj n A c j * A j k * x k) = sm n (fun k => if k = c then det n A * x k else 0) := sm_congr fun k hk => by
    rw [sm_mul', adj_mul A hc hk]
    by_cases h : c = k
    · rw [if_pos h, if_pos h.symm]
    · rw [if_neg h, if_neg (fun e => h e.symm), Int.zero_mul]
  rw [e2, sm_one (f := fun k => det n A * x k) hc]
end Dt
/- Primes, by trial division; Fermat's theorem. -/
namespace Nt

structure Prm (p : Nat) : Prop where
  two : 2 ≤ p
  div : ∀ d, d ∣ p → d = 1 ∨ d = p
theorem Prm.of {p : Nat} (h2 : 2 ≤ p) (h : ∀ d, 2 ≤ d → d * d ≤ p → ¬ d ∣ p) : Prm p := by
  refine ⟨h2, fun d hd => Classical.byContradiction fun hno => ?_⟩
  obtain ⟨e, he⟩ := hd
  have hd0 : d ≠ 0 := by rintro rfl; simp at he; omega
  have he0 : e ≠ 0 := by rintro rfl; simp at he; omega
  have he1 : e ≠ 1 := by rintro rfl; simp at he; omega
  by_cases hle : d ≤ e
  · exact h d (by omega) (by rw [he]; exact Nat.mul_le_mul_left d hle) ⟨e, he⟩
  · exact h e (by omega) (by rw [he]; exact Nat.mul_le_mul_right e (by omega)) ⟨d, by rw [he, Nat.mul_comm]⟩
theorem Prm.cop {p a : Nat} (h : Prm p) (ha : ¬ p ∣ a) : Nat.Coprime p a := by
  rcases h.div _ (Nat.gcd_dvd_left p a) with h1 | h1
  · exact h1
  · exact absurd (h1 ▸ Nat.gcd_dvd_right p a) ha
theorem Prm.euclid {p a b : Nat} (h : Prm p) (hab : p ∣ a * b) : p ∣ a ∨ p ∣ b := by
  by_cases ha : p ∣ a
  · exact .inl ha
  · exact .inr ((h.cop ha).dvd_of_dvd_mul_left hab)
def prod : List Nat → Nat
  | [] => 1
  | x :: l => x * prod l
theorem prod_perm {l m : List Nat} (h : l.Perm m) : prod l = prod m := by
  induction h with
  | nil => rfl
  | cons x _ ih => simp only [prod, ih]
  | swap x y l => simp only [prod]; rw [← Nat.mul_assoc, ← Nat.mul_assoc, Nat.mul_comm y x]
  | trans _ _ h1 h2 => rw [h1, h2]
theorem prod_map {a p : Nat} : ∀ l : List Nat, prod (l.map fun k => a * k % p) % p = a ^ l.length * prod l % p
  | [] => by simp [prod]
  | x :: l => by
    have ih := prod_map (a := a) (p := p) l
    simp only [List.map_cons, prod, List.length_cons]
    have e : a ^ (l.length + 1) * (x * prod l) = a * x * (a ^ l.length * prod l) := by
      rw [Nat.pow_succ]
      simp only [Nat.mul_assoc, Nat.mul_comm, Nat.mul_left_comm]
    rw [e, Nat.mul_mod, Nat.mod_mod, ih, ← Nat.mul_mod]
theorem prm_prod {p : Nat} (h : Prm p) : ∀ l : List Nat, (∀ x, x ∈ l → 0 < x ∧ x < p) → ¬ p ∣ prod l
  | [], _ => by
    intro hd
    have := Nat.le_of_dvd (by simp [prod]) hd
    have := h.two
    simp only [prod] at *
    omega
  | x :: l, hl => by
    intro hd
    rcases h.euclid hd with h1 | h1
    · have := Nat.le_of_dvd (hl x (by simp)).1 h1
      have := (hl x (by simp)).2
      omega
    · exact prm_prod h l (fun y hy => hl y (by simp [hy])) h1
theorem perm_of {l m : List Nat} (hl : l.Nodup) (hs : ∀ x, x ∈ l → x ∈ m) (hm : m.Nodup) (he : m.length ≤ l.length) : l.Perm m := by
  induction l generalizing m with
  | nil =>
    have : m = [] := List.eq_nil_of_length_eq_zero (by simpa using he)
    rw [this]
  | cons x l ih =>
    rw [List.nodup_cons] at hl
    have hx := hs x (by simp)
    have hp := List.perm_cons_erase hx
    refine .trans ?_ hp.symm
    refine .cons x (ih hl.2 (fun y hy => ?_) (hm.erase x) ?_)
    · exact (List.mem_erase_of_ne (by rintro rfl; exact hl.1 hy)).2 (hs y (by simp [hy]))
    · rw [List.length_erase_of_mem hx]
      simp only [List.length_cons] at he
      omega
theorem dvd_of_mod {x y p : Nat} (h : x % p = y % p) : p ∣ y - x := Nat.dvd_of_mod_eq_zero (Nat.sub_mod_eq_zero_of_mod_eq h.symm)
theorem mod_of_dvd {x y p : Nat} (hle : x ≤ y) (h : p ∣ y - x) : x % p = y % p := by
  obtain ⟨k, hk⟩ := h
  have : y = x + p * k := by omega
  rw [this, Nat.add_mul_mod_self_left]
/-- Fermat's little theorem -/
theorem Prm.fermat {p a : Nat} (h : Prm p) (ha : ¬ p ∣ a) : a ^ (p - 1) % p = 1 := by
  have h2 := h.two
  let L := (List.range (p - 1)).map (· + 1)
  have hmem : ∀ x, x ∈ L ↔ 0 < x ∧ x < p := by
    intro x
    simp only [L, List.mem_map, List.mem_range]
    constructor
    · rintro ⟨y, hy, rfl⟩; omega
    · rintro ⟨h1, h3⟩; exact ⟨x - 1, by omega, by omega⟩
  have hL : L.Nodup := by
    rw [List.nodup_iff_pairwise_ne, List.pairwise_map]
    exact (List.nodup_iff_pairwise_ne.1 List.nodup_range).imp fun h e => h (by omega)
  have hlen : L.length = p - 1 := by simp [L]
  have hinj : ∀ x y, x < p → y < p → a * x % p = a * y % p → x ≤ y → x = y := by
    intro x y hx hy he hle
    have h1 : p ∣ a * (y - x) := by
      rw [Nat.mul_sub]
      exact dvd_of_mod he
    rcases h.euclid h1 with h3 | h3
    · exact absurd h3 ha
    · refine Classical.byContradiction fun hne => ?_
      have := Nat.le_of_dvd (by omega) h3
      omega
  have hp : (L.map fun k => a * k % p).Perm L := by
    refine perm_of ?_ (fun x hx => ?_) hL (by simp)
    · rw [List.nodup_iff_pairwise_ne, List.pairwise_map]
      have h3 : L.Pairwise fun x y => x ∈ L ∧ y ∈ L := List.Pairwise.and_mem.1 (List.pairwise_of_forall (l := L) (R := fun _ _ => True) (fun _ _ => trivial)) |>.imp fun h => ⟨h.1, h.2.1⟩
      refine ((List.nodup_iff_pairwise_ne.1 hL).and h3).imp ?_
      rintro x y ⟨hne, hx, hy⟩ he
      have hx := (hmem x).1 hx
      have hy := (hmem y).1 hy
      rcases Nat.le_total x y with hle | hle
      · exact hne (hinj x y hx.2 hy.2 he hle)
      · exact hne (hinj y x hy.2 hx.2 he.symm hle).symm
    · obtain ⟨k, hk, rfl⟩ := List.mem_map.1 hx
      have hk := (hmem k).1 hk
      refine (hmem _).2 ⟨Nat.pos_of_ne_zero fun h0 => ?_, Nat.mod_lt _ (by omega)⟩
      rcases h.euclid (Nat.dvd_of_mod_eq_zero h0) with h3 | h3
      · exact ha h3
      · have := Nat.le_of_dvd hk.1 h3; omega
  have h3 := prod_map (a := a) (p := p) L
  rw [prod_perm hp, hlen] at h3
  have hnd := prm_prod h L (fun x hx => (hmem x).1 hx)
  -- prod L (a^(p-1) - 1) is divisible
  have hpos : 1 ≤ a ^ (p - 1) := Nat.pos_of_ne_zero fun h0 => by
    have : a ≠ 0 := by rintro rfl; exact ha (Nat.dvd_zero p)
    exact absurd h0 (Nat.pos_iff_ne_zero.1 (Nat.pow_pos (by omega)))
  have h4 : p ∣ a ^ (p - 1) * prod L - 1 * prod L := dvd_of_mod (by rw [Nat.one_mul]; exact h3)
  rw [← Nat.sub_mul] at h4
  have h5 := (h.euclid h4).resolve_right hnd
  have h6 : 1 % p = a ^ (p - 1) % p := mod_of_dvd hpos h5
  rw [← h6]
  exact Nat.mod_eq_of_lt (by omega)
end Nt
/- The extended algorithm of Euclid; a fraction is recovered from its remainder. -/
namespace Nt

def ab (x : Int) : Int := if x < 0 then -x else x
theorem ab_nn (x : Int) : 0 ≤ ab x := by unfold ab; split <;> omega
theorem ab_neg {x : Int} (h : x ≤ 0) : ab x = -x := by unfold ab; split <;> omega
theorem ab_pos {x : Int} (h : 0 ≤ x) : ab x = x := by unfold ab; split <;> omega
/-- two remainders in a row, and their factors -/
structure Eu (m x : Int) (r0 r1 t0 t1 : Int) : Prop where
  n0 : 0 < r0
  n1 : 0 ≤ r1
  le : r1 ≤ r0
  sum : r0 * ab t1 + r1 * ab t0 = m
  sgn : (0 ≤ t0 ∧ t1 ≤ 0) ∨ (t0 ≤ 0 ∧ 0 ≤ t1)
  t : t1 ≠ 0
  c0 : m ∣ r0 - t0 * x
  c1 : m ∣ r1 - t1 * x
theorem Eu.start {m x : Int} (hm : 0 < m) (hx : 0 ≤ x ∧ x < m) : Eu m x m x 0 1 :=
  ⟨hm, hx.1, by omega, by simp [ab], .inr ⟨by omega, by omega⟩, by omega, ⟨1, by simp⟩, ⟨0, by omega⟩⟩
theorem Eu.step {m x r0 r1 t0 t1 : Int} (h : Eu m x r0 r1 t0 t1) (h1 : 0 < r1) : Eu m x r1 (r0 - r0 / r1 * r1) t1 (t0 - r0 / r1 * t1) := by
  have hq : 1 ≤ r0 / r1 := by
    have := h.le
    have h2 : 1 * r1 ≤ r0 := by omega
    exact (Int.le_ediv_iff_mul_le h1).2 h2
  have hm := Int.emod_nonneg r0 (show r1 ≠ 0 by omega)
  have hm2 := Int.emod_lt_of_pos r0 h1
  have he : r0 - r0 / r1 * r1 = r0 % r1 := by
    have := Int.mul_ediv_add_emod r0 r1
    rw [Int.mul_comm] at this
    omega
  have hs := h.sum
  generalize hqq : r0 / r1 = q at *
  have hab : ab (t0 - q * t1) = ab t0 + q * ab t1 := by
    rcases h.sgn with ⟨a1, a2⟩ | ⟨a1, a2⟩
    · have : q * t1 ≤ 0 := Int.mul_nonpos_of_nonneg_of_nonpos (by omega) a2
      rw [ab_pos a1, ab_neg a2, ab_pos (by omega)]; grind
    · have : 0 ≤ q * t1 := Int.mul_nonneg (by omega) a2
      rw [ab_neg a1, ab_pos a2, ab_neg (by omega)]; grind
  refine ⟨h1, by omega, by omega, ?_, ?_, ?_, h.c1, ?_⟩
  · rw [hab]; grind
  · rcases h.sgn with ⟨a1, a2⟩ | ⟨a1, a2⟩
    · have : q * t1 ≤ 0 := Int.mul_nonpos_of_nonneg_of_nonpos (by omega) a2
      exact .inr ⟨a2, by omega⟩
    · have : 0 ≤ q * t1 := Int.mul_nonneg (by omega) a2
      exact .inl ⟨a2, by omega⟩
  · intro h0
    have h2 : ab (t0 - q * t1) = 0 := by rw [h0]; rfl
    rw [hab] at h2
    have h3 := ab_nn t0
    have h4 : 0 < ab t1 := by
      have := h.t
      unfold ab; split <;> omega
    have h5 : 1 * ab t1 ≤ q * ab t1 := Int.mul_le_mul_of_nonneg_right hq (by omega)
    omega
  · obtain ⟨a, ha⟩ := h.c0
    obtain ⟨b, hb⟩ := h.c1
    refine ⟨a - q * b, ?_⟩
    have : r0 - q * r1 - (t0 - q * t1) * x = (r0 - t0 * x) - q * (r1 - t1 * x) := by grind
    rw [this, ha, hb]
    grind
theorem sq_lt {a b : Int} (ha : 0 ≤ a) (hb : 0 ≤ b) (h : a * a < b * b) : a < b := by
  refine Classical.byContradiction fun hno => ?_
  have h1 : b * b ≤ a * a := Int.mul_le_mul (by omega) (by omega) hb ha
  omega
/-- where the search stops, the fraction stands -/
theorem recon {x r0 r1 t0 t1 num den : Int} (hp : Prm 2147483647) (h : Eu 2147483647 x r0 r1 t0 t1) (hs0 : 2147483647 < 2 * (r0 * r0)) (hs1 : 2 * (r1 * r1) ≤ 2147483647) (hg : Int.gcd num den = 1) (hn : -1000 ≤ num ∧ num ≤ 1000) (hd : 1 ≤ den ∧ den ≤ 1000) (hx : (2147483647 : Int) ∣ num - den * x) :
    (r1 = num ∧ t1 = den) ∨ (r1 = -num ∧ t1 = -den) := by
  have hn0 := h.n0
  have hn1 := h.n1
  have hr0 : 32767 < r0 := sq_lt (by omega) (by omega) (by omega)
  have hr1 : r1 < 32768 := sq_lt (by omega) (by omega) (by omega)
  have hsum := h.sum
  have ha0 := ab_nn t0
  have ha1 := ab_nn t1
  have hprod : 0 ≤ r1 * ab t0 := Int.mul_nonneg hn1 ha0
  have ht1 : ab t1 < 65536 := by
    refine Classical.byContradiction fun hno => ?_
    have : 32768 * 65536 ≤ r0 * ab t1 := Int.mul_le_mul (by omega) (by omega) (by omega) (by omega)
    omega
  have ht1' : -65536 < t1 ∧ t1 < 65536 := by unfold ab at ht1; split at ht1 <;> omega
  -- the cross product
  have hz : r1 * den - t1 * num = 0 := by
    obtain ⟨a, ha⟩ := h.c1
    obtain ⟨b, hb⟩ := hx
    have e : r1 * den - t1 * num = 2147483647 * (a * den - b * t1) := by
      have : r1 * den - t1 * num = (r1 - t1 * x) * den - (num - den * x) * t1 := by grind
      rw [this, ha, hb]; grind
    have b1 : r1 * den ≤ 32768 * 1000 := Int.mul_le_mul (by omega) (by omega) (by omega) (by omega)
    have b2 : 0 ≤ r1 * den := Int.mul_nonneg hn1 (by omega)
    have b3 : ab t1 * ab num ≤ 65536 * 1000 := Int.mul_le_mul (by omega) (by unfold ab; split <;> omega) (ab_nn _) (by omega)
    have b4 : ab (t1 * num) = ab t1 * ab num := by
      rcases Int.le_total 0 t1 with h1 | h1 <;> rcases Int.le_total 0 num with h2 | h2
      · rw [ab_pos h1, ab_pos h2, ab_pos (Int.mul_nonneg h1 h2)]
      · rw [ab_pos h1, ab_neg h2, ab_neg (Int.mul_nonpos_of_nonneg_of_nonpos h1 h2)]; grind
      · rw [ab_neg h1, ab_pos h2, ab_neg (Int.mul_nonpos_of_nonpos_of_nonneg h1 h2)]; grind
      · rw [ab_neg h1, ab_neg h2, ab_pos (Int.mul_nonneg_of_nonpos_of_nonpos h1 h2)]; grind
    have b5 : -65536000 ≤ t1 * num ∧ t1 * num ≤ 65536000 := by
      rw [← b4] at b3
      unfold ab at b3; split at b3 <;> omega
    omega
  have hdv : den ∣ t1 := by
    have h1 : den ∣ num * t1 := ⟨r1, by rw [Int.mul_comm num t1, Int.mul_comm den r1]; omega⟩
    refine Int.natAbs_dvd_natAbs.1 (Nat.Coprime.dvd_of_dvd_mul_left (k := den.natAbs) (m := num.natAbs) ?_ ?_)
    · have : Nat.gcd num.natAbs den.natAbs = 1 := hg
      exact (Nat.gcd_comm _ _).trans this
    · rw [← Int.natAbs_mul]; exact Int.natAbs_dvd_natAbs.2 h1
  obtain ⟨k, hk⟩ := hdv
  have hr : r1 = k * num := by
    have h1 : den * (r1 - k * num) = 0 := by rw [hk] at hz; grind
    rcases Int.mul_eq_zero.1 h1 with h2 | h2 <;> omega
  -- k divides the prime
  have hkm : k ∣ 2147483647 := by
    have h1 : k ∣ ab t1 := by
      rcases Int.le_total 0 t1 with h1 | h1
      · rw [ab_pos h1]; exact ⟨den, by rw [hk, Int.mul_comm]⟩
      · rw [ab_neg h1]; exact ⟨-den, by rw [hk]; grind⟩
    obtain ⟨c, hc⟩ := h1
    refine ⟨r0 * c + num * ab t0, ?_⟩
    rw [← hsum, hc, hr]
    grind
  have hkn : k.natAbs ∣ 2147483647 := by
    have := Int.natAbs_dvd_natAbs.2 hkm
    exact this
  rcases hp.div _ hkn with h1 | h1
  · have : k = 1 ∨ k = -1 := by omega
    rcases this with rfl | rfl
    · left; constructor <;> omega
    · right; constructor <;> omega
  · exfalso
    have : 2147483647 * 1 ≤ ab k * den := by
      refine Int.mul_le_mul ?_ (by omega) (by omega) (ab_nn k)
      unfold ab; split <;> omega
    have h2 : ab t1 = ab k * den := by
      rw [hk]
      rcases Int.le_total 0 k with h3 | h3
      · rw [ab_pos h3, ab_pos (Int.mul_nonneg (by omega) h3), Int.mul_comm]
      · rw [ab_neg h3, ab_neg (Int.mul_nonpos_of_nonneg_of_nonpos (by omega) h3)]; grind
    omega
end Nt
/- The moduli of the statements are primes. -/
namespace Nt

/-- no divisor from d on, for n numbers -/
def nodiv (p : Nat) : Nat → Nat → Bool
  | 0, _ => true
  | n + 1, d => !(Nat.beq (p % d) 0) && nodiv p n (d + 1)
theorem nodiv_ok {p : Nat} : ∀ (n d : Nat), nodiv p n d = true → ∀ e, d ≤ e → e < d + n → ¬ e ∣ p
  | 0, d, _, e, h1, h2 => by omega
  | n + 1, d, h, e, h1, h2 => by
    simp only [nodiv, Bool.and_eq_true, Bool.not_eq_true'] at h
    by_cases hed : e = d
    · subst hed
      intro hd
      have h3 := Nat.mod_eq_zero_of_dvd hd
      have h4 := h.1
      rw [h3] at h4
      cases h4
    · exact nodiv_ok n (d + 1) h.2 e (by omega) (by omega)
theorem Prm.by_nodiv {p n : Nat} (h2 : 2 ≤ p) (h : nodiv p n 2 = true) (hn : p < (n + 2) * (n + 2)) : Prm p := by
  refine Prm.of h2 fun d hd hdd => nodiv_ok n 2 h d hd ?_
  refine Classical.byContradiction fun hno => ?_
  have : (n + 2) * (n + 2) ≤ d * d := Nat.mul_le_mul (by omega) (by omega)
  omega
theorem nodiv_max : nodiv 2147483647 46340 2 = true := by kernel_rfl
theorem prm_max : Prm 2147483647 := Prm.by_nodiv (by omega) nodiv_max (by omega)
theorem nodiv_mil : nodiv 1000003 1000 2 = true := by kernel_rfl
theorem prm_mil : Prm 1000003 := Prm.by_nodiv (by omega) nodiv_mil (by omega)
theorem nodiv_fer : nodiv 65537 256 2 = true := by kernel_rfl
theorem prm_fer : Prm 65537 := Prm.by_nodiv (by omega) nodiv_fer (by omega)
theorem nodiv_101 : nodiv 101 10 2 = true := by kernel_rfl
theorem prm_101 : Prm 101 := Prm.by_nodiv (by omega) nodiv_101 (by omega)
end Nt
/- Powers and inverses modulo a prime. -/
namespace Nt

theorem pow_half (a n : Nat) : a ^ n = a ^ (n % 2) * (a * a) ^ (n / 2) := by
  have h : n = n % 2 + 2 * (n / 2) := by omega
  conv => lhs; rw [h]
  rw [Nat.pow_add, Nat.pow_mul, Nat.pow_two]
/-- a step of the binary power: an odd exponent, an even one -/
theorem pow_odd {out a n p : Nat} (h : n % 2 = 1) : (out * a % p) * (a * a % p) ^ (n / 2) % p = out * a ^ n % p := by
  rw [pow_half a n, h, Nat.pow_one, ← Nat.mul_assoc]
  rw [Nat.mul_mod, Nat.mod_mod, ← Nat.pow_mod, ← Nat.mul_mod]
theorem pow_even {out a n p : Nat} (h : n % 2 = 0) : out * (a * a % p) ^ (n / 2) % p = out * a ^ n % p := by
  rw [pow_half a n, h, Nat.pow_zero, Nat.one_mul]
  rw [Nat.mul_mod, ← Nat.pow_mod, ← Nat.mul_mod]
theorem inv_ok {p a : Nat} (hp : Prm p) (h0 : 0 < a) (h1 : a < p) : a * (a ^ (p - 2) % p) % p = 1 := by
  have h2 := hp.two
  have hn : ¬ p ∣ a := fun hd => by have := Nat.le_of_dvd h0 hd; omega
  have hf := hp.fermat hn
  rw [Nat.mul_mod, Nat.mod_mod, ← Nat.mul_mod]
  have e : a * a ^ (p - 2) = a ^ (p - 1) := by
    rw [show p - 1 = (p - 2) + 1 by omega, Nat.pow_succ, Nat.mul_comm]
  rw [e, hf]
/-- the inverse is one number only -/
theorem inv_uniq {p a x y : Nat} (hx : x < p) (hy : y < p) (h1 : a * x % p = 1 % p) (h2 : a * y % p = 1 % p) : x = y := by
  have e1 : (x * (a * y)) % p = x % p := by
    rw [Nat.mul_mod, h2, ← Nat.mul_mod, Nat.mul_one]
  have e2 : (y * (a * x)) % p = y % p := by
    rw [Nat.mul_mod, h1, ← Nat.mul_mod, Nat.mul_one]
  have e3 : x * (a * y) = y * (a * x) := by rw [Nat.mul_left_comm, Nat.mul_left_comm y a x, Nat.mul_comm x y]
  rw [e3, e2] at e1
  rw [Nat.mod_eq_of_lt hx, Nat.mod_eq_of_lt hy] at e1
  exact e1.symm
end Nt
/- Matrices modulo a number: what row operations keep. -/
namespace Dt

def Cg (p a b : Int) : Prop := p ∣ a - b
theorem Cg.refl (p a : Int) : Cg p a a := ⟨0, by omega⟩
theorem Cg.symm {p a b : Int} (h : Cg p a b) : Cg p b a := by obtain ⟨k, hk⟩ := h; exact ⟨-k, by rw [Int.mul_neg]; omega⟩
theorem Cg.trans {p a b c : Int} (h : Cg p a b) (h' : Cg p b c) : Cg p a c := by
  obtain ⟨k, hk⟩ := h; obtain ⟨m, hm⟩ := h'; exact ⟨k + m, by rw [Int.mul_add]; omega⟩
theorem Cg.add {p a b c d : Int} (h : Cg p a b) (h' : Cg p c d) : Cg p (a + c) (b + d) := by
  obtain ⟨k, hk⟩ := h; obtain ⟨m, hm⟩ := h'; exact ⟨k + m, by rw [Int.mul_add]; omega⟩
theorem Cg.sub {p a b c d : Int} (h : Cg p a b) (h' : Cg p c d) : Cg p (a - c) (b - d) := by
  obtain ⟨k, hk⟩ := h; obtain ⟨m, hm⟩ := h'; exact ⟨k - m, by rw [Int.mul_sub]; omega⟩
theorem Cg.neg {p a b : Int} (h : Cg p a b) : Cg p (-a) (-b) := by
  obtain ⟨k, hk⟩ := h; exact ⟨-k, by rw [Int.mul_neg]; omega⟩
theorem Cg.mul {p a b c d : Int} (h : Cg p a b) (h' : Cg p c d) : Cg p (a * c) (b * d) := by
  obtain ⟨k, hk⟩ := h; obtain ⟨m, hm⟩ := h'
  refine ⟨k * c + b * m, ?_⟩
  have e : a * c - b * d = (a - b) * c + b * (c - d) := by grind
  rw [e, hk, hm]
  grind
theorem Cg.mod (p a : Int) : Cg p (a % p) a := by
  refine ⟨-(a / p), ?_⟩
  have := Int.mul_ediv_add_emod a p
  rw [Int.mul_neg]
  omega
theorem Cg.iff {p a b : Int} : Cg p a b ↔ a % p = b % p := by
  constructor
  · rintro ⟨k, hk⟩
    have : a = b + p * k := by omega
    rw [this, Int.add_mul_emod_self_left]
  · intro h
    exact ((Cg.mod p a).symm.trans (h ▸ Cg.refl p _)).trans (Cg.mod p b)
theorem Cg.zero {p a : Int} : Cg p a 0 ↔ a % p = 0 := by rw [Cg.iff]; simp
theorem Cg.eq {p a b : Int} (h : Cg p a b) (ha : 0 ≤ a ∧ a < p) (hb : 0 ≤ b ∧ b < p) : a = b := by
  have := Cg.iff.1 h
  rwa [Int.emod_eq_of_lt ha.1 ha.2, Int.emod_eq_of_lt hb.1 hb.2] at this
theorem Cg.sm {p : Int} {n : Nat} {f g : Nat → Int} (h : ∀ i, i < n → Cg p (f i) (g i)) : Cg p (sm n f) (sm n g) := by
  induction n with
  | zero => exact .refl _ _
  | succ n ih => exact (ih fun i hi => h i (by omega)).add (h n (by omega))
theorem Cg.det {p : Int} : ∀ {n : Nat} {A B : Mx}, (∀ i j, i < n → j < n → Cg p (A i j) (B i j)) → Cg p (det n A) (det n B)
  | 0, _, _, _ => .refl _ _
  | n + 1, A, B, h => by
    rw [Dt.det, Dt.det]
    refine Cg.sm fun j hj => ?_
    exact ((Cg.refl p _).mul (h 0 j (by omega) hj)).mul (Cg.det fun i k hi hk => h _ _ (by omega) (sk_lt hj hk))

/-- x is mapped to zero -/
def Nl (p : Int) (n w : Nat) (M : Mx) (x : Nat → Int) : Prop := ∀ r, r < n → Cg p (sm w fun c => M r c * x c) 0
/-- the rows of one matrix are combinations of the other's, and the other way round -/
def Rq (p : Int) (n w : Nat) (M M' : Mx) : Prop := ∀ x, Nl p n w M x ↔ Nl p n w M' x
theorem Rq.refl (p : Int) (n w : Nat) (M : Mx) : Rq p n w M M := fun _ => Iff.rfl
theorem Rq.trans {p : Int} {n w : Nat} {A B C : Mx} (h : Rq p n w A B) (h' : Rq p n w B C) : Rq p n w A C := fun x => (h x).trans (h' x)
theorem Rq.symm {p : Int} {n w : Nat} {A B : Mx} (h : Rq p n w A B) : Rq p n w B A := fun x => (h x).symm
theorem Rq.cg {p : Int} {n w : Nat} {A B : Mx} (h : ∀ r c, r < n → c < w → Cg p (A r c) (B r c)) : Rq p n w A B := by
  intro x
  have e : ∀ r, r < n → Cg p (sm w fun c => A r c * x c) (sm w fun c => B r c * x c) := fun r hr => Cg.sm fun c hc => (h r c hr hc).mul (.refl _ _)
  exact ⟨fun hA r hr => (e r hr).symm.trans (hA r hr), fun hB r hr => (e r hr).trans (hB r hr)⟩
theorem Rq.sw {p : Int} {n w : Nat} (A : Mx) {i k : Nat} (hi : i < n) (hk : k < n) : Rq p n w A (sw A i k) := by
  intro x
  constructor
  · intro h r hr
    unfold Dt.sw
    by_cases h1 : r = i
    · simp only [h1, if_true]; exact h k hk
    · by_cases h2 : r = k
      · simp only [h1, if_false]; simp only [h2, if_true]; exact h i hi
      · simp only [h1, h2, if_false]; exact h r hr
  · intro h r hr
    by_cases h1 : r = i
    · by_cases h2 : i = k
      · have := h r hr
        unfold Dt.sw at this
        subst h1; subst h2; simpa using this
      · have := h k hk
        unfold Dt.sw at this
        rw [h1]
        simpa [Ne.symm h2] using this
    · by_cases h2 : r = k
      · have := h i hi
        unfold Dt.sw at this
        rw [h2]
        simpa using this
      · have := h r hr
        unfold Dt.sw at this
        simpa [h1, h2] using this
theorem sm_scale (w : Nat) (f : Int) (v x : Nat → Int) : sm w (fun c => f * v c * x c) = f * sm w (fun c => v c * x c) := by
  rw [← sm_mul]; exact sm_congr fun c _ => by grind
theorem Rq.scale {p : Int} {n w : Nat} (A : Mx) {i : Nat} (hi : i < n) {f g : Int} (hfg : Cg p (g * f) 1) : Rq p n w A (up A i (fun c => f * A i c)) := by
  intro x
  constructor
  · intro h r hr
    by_cases h1 : r = i
    · subst h1
      simp only [up_in]
      rw [sm_scale]
      have := (Cg.refl p f).mul (h r hr)
      simpa using this
    · simp only [up_out h1]; exact h r hr
  · intro h r hr
    have h2 := h r hr
    by_cases h1 : r = i
    · subst h1
      simp only [up_in] at h2
      rw [sm_scale] at h2
      have h3 := (Cg.refl p g).mul h2
      rw [Int.mul_zero, ← Int.mul_assoc] at h3
      have h4 := hfg.mul (Cg.refl p (sm w fun c => A r c * x c))
      rw [Int.one_mul] at h4
      exact h4.symm.trans h3
    · simp only [up_out h1] at h2; exact h2
theorem sm_comb (w : Nat) (f : Int) (u v x : Nat → Int) : sm w (fun c => (u c + f * v c) * x c) = sm w (fun c => u c * x c) + f * sm w (fun c => v c * x c) := by
  rw [← sm_mul, ← sm_add]; exact sm_congr fun c _ => by grind
theorem Rq.add {p : Int} {n w : Nat} (A : Mx) {i k : Nat} (hi : i < n) (hk : k < n) (hik : i ≠ k) (f : Int) : Rq p n w A (up A i (fun c => A i c + f * A k c)) := by
  intro x
  constructor
  · intro h r hr
    by_cases h1 : r = i
    · subst h1
      simp only [up_in]
      rw [sm_comb]
      have := (h r hr).add ((Cg.refl p f).mul (h k hk))
      simpa using this
    · simp only [up_out h1]; exact h r hr
  · intro h r hr
    have h2 := h r hr
    by_cases h1 : r = i
    · subst h1
      simp only [up_in] at h2
      rw [sm_comb] at h2
      have h3 := h k hk
      simp only [up_out (Ne.symm hik)] at h3
      have := h2.sub ((Cg.refl p f).mul h3)
      simp only [Int.mul_zero, Int.sub_zero] at this
      rwa [Int.add_sub_cancel] at this
    · simp only [up_out h1] at h2; exact h2
theorem Rq.adds {p : Int} {n w : Nat} (A : Mx) {k : Nat} (hk : k < n) (x : Nat → Int) : ∀ m, m ≤ n → Rq p n w A (adds A k x m) := by
  intro m
  induction m with
  | zero => exact fun _ => Rq.cg fun r c _ _ => by rw [adds_out (by omega)]; exact .refl _ _
  | succ m ih =>
    intro hm
    refine (ih (by omega)).trans ?_
    by_cases h0 : m = k
    · subst h0
      refine Rq.cg fun r c _ _ => ?_
      by_cases h1 : r ≠ m ∧ r < m
      · rw [adds_in h1, adds_in (by omega)]; exact .refl _ _
      · rw [adds_out h1, adds_out (by omega)]; exact .refl _ _
    · refine (Rq.add (p := p) (n := n) (w := w) (Dt.adds A k x m) (i := m) (k := k) (by omega) hk h0 (x m)).trans ?_
      refine Rq.cg fun r c _ _ => ?_
      by_cases hr : r = m
      · subst hr
        rw [adds_in (by omega), up_in, adds_out (by omega), adds_out (by omega)]; exact .refl _ _
      · rw [up_out hr]
        by_cases h1 : r ≠ k ∧ r < m
        · rw [adds_in h1, adds_in (by omega)]; exact .refl _ _
        · rw [adds_out h1, adds_out (by omega)]; exact .refl _ _
/-- one step of the elimination: row k is scaled, and taken off the others -/
theorem Rq.step {p : Int} {n w : Nat} (A : Mx) {k : Nat} (hk : k < n) {f g : Int} (hfg : Cg p (g * f) 1) (x : Nat → Int) : Rq p n w A (Dt.adds (up A k (fun c => f * A k c)) k x n) :=
  (Rq.scale A hk hfg).trans (Rq.adds _ hk x n (Nat.le_refl n))
theorem det_step {n : Nat} (A : Mx) {k : Nat} (hk : k < n) (f : Int) (x : Nat → Int) : det n (Dt.adds (up A k (fun c => f * A k c)) k x n) = f * det n A := by
  rw [(det_am n).adds _ hk x n (Nat.le_refl n), (det_am n).scale hk A f]
end Dt
/- The reduced row echelon form modulo a prime: what it tells of kernel and solutions. -/
namespace Dt

/-- columns below c are done; k pivots, in columns col -/
structure Rre (p : Int) (n w : Nat) (M : Mx) (col : Nat → Nat) (k c : Nat) : Prop where
  kn : k ≤ n
  cw : c ≤ w
  lt : ∀ s, s < k → col s < c
  asc : ∀ s t, s < t → t < k → col s < col t
  unit : ∀ s r, s < k → r < n → M r (col s) = if r = s then 1 else 0
  zero : ∀ r j, k ≤ r → r < n → j < c → M r j = 0
  rng : ∀ r j, r < n → j < w → 0 ≤ M r j ∧ M r j < p
  lead : ∀ s j, s < k → j < col s → M s j = 0
section
variable {p : Int} {n w : Nat} {M : Mx} {col : Nat → Nat} {k c : Nat}
theorem Rre.ge (h : Rre p n w M col k c) : ∀ s, s < k → s ≤ col s := by
  intro s
  induction s with
  | zero => intro _; omega
  | succ s ih =>
    intro hs
    have h1 := ih (by omega)
    have h2 := h.asc s (s + 1) (by omega) hs
    omega
theorem Rre.kc (h : Rre p n w M col k c) : k ≤ c := by
  cases k with
  | zero => omega
  | succ k =>
    have h1 := h.ge k (by omega)
    have h2 := h.lt k (by omega)
    omega
/-- the first column that is no pivot -/
theorem Rre.first (h : Rre p n w M col k c) {fr : Nat} (h1 : ∀ s, s < fr → s < k ∧ col s = s) (h2 : fr < k → col fr ≠ fr) : ∀ s, s < k → col s ≠ fr := by
  intro s hs he
  by_cases hsf : s < fr
  · have := (h1 s hsf).2
    omega
  · have hfk : fr < k := by omega
    have h3 := h.ge fr hfk
    have h4 := h2 hfk
    by_cases hse : s = fr
    · subst hse; exact h4 he
    · have := h.asc fr s (by omega) hs
      omega
/-- a sum in which only the pivots' places and one more count -/
theorem sm_piv (k : Nat) (col : Nat → Nat) (hinj : ∀ s t, s < t → t < k → col s < col t) (w : Nat) (hw : ∀ s, s < k → col s < w) (g : Nat → Int) : ∀ m, m ≤ k → sm w (fun j => sm m fun s => if j = col s then g s else 0) = sm m g := by
  intro m
  induction m with
  | zero => exact fun _ => sm_zero fun j _ => rfl
  | succ m ih =>
    intro hm
    have e : sm w (fun j => sm (m + 1) fun s => if j = col s then g s else 0) = sm w (fun j => sm m fun s => if j = col s then g s else 0) + sm w (fun j => if j = col m then g m else 0) := by
      rw [← sm_add]; rfl
    rw [e, ih (by omega), sm_one (f := fun _ => g m) (hw m (by omega))]
    rfl
/-- the vector that has 1 at a column fr that is no pivot, and -M s fr at the pivots, is mapped to zero -/
theorem Rre.kernel (h : Rre p n w M col k w) {fr : Nat} (hfr : fr < w) (hno : ∀ s, s < k → col s ≠ fr) {v : Nat → Int} (h1 : v fr = 1) (hv : ∀ s, s < k → Cg p (v (col s)) (- M s fr)) (h0 : ∀ j, j < w → j ≠ fr → (∀ s, s < k → col s ≠ j) → v j = 0) : Nl p n w M v := by
  intro r hr
  by_cases hrk : r < k
  · -- the row of a pivot
    have hsum : sm w (fun j => M r j * v j) = sm w (fun j => (if j = fr then M r fr else 0) + (if j = col r then v (col r) else 0)) := by
      refine sm_congr fun j hj => ?_
      by_cases hjf : j = fr
      · subst hjf
        rw [if_pos rfl, if_neg (fun e => hno r hrk e.symm), h1]; omega
      · rw [if_neg hjf]
        by_cases hp : ∃ s, s < k ∧ col s = j
        · obtain ⟨s, hs, rfl⟩ := hp
          rw [h.unit s r hs hr]
          by_cases hrs : r = s
          · subst hrs; rw [if_pos rfl, if_pos rfl]; omega
          · rw [if_neg hrs, if_neg (fun e => hrs ?_)]
            · simp
            · rcases Nat.lt_trichotomy s r with h5 | h5 | h5
              · have := h.asc s r h5 hrk; omega
              · exact h5.symm
              · have := h.asc r s h5 hs; omega
        · have hz := h0 j hj hjf (fun s hs he => hp ⟨s, hs, he⟩)
          rw [hz, if_neg (fun e => hp ⟨r, hrk, e.symm⟩)]; simp
    rw [hsum, sm_add, sm_one (f := fun _ => M r fr) hfr, sm_one (f := fun _ => v (col r)) (h.lt r hrk)]
    have := (Cg.refl p (M r fr)).add (hv r hrk)
    rwa [Int.add_right_neg] at this
  · rw [sm_zero fun j hj => by rw [h.zero r j (by omega) hr hj, Int.zero_mul]]
    exact .refl _ _
/-- with a pivot in each column, only zero is mapped to zero -/
theorem Rre.only (h : Rre p n w M col w w) {v : Nat → Int} (hv : Nl p n w M v) : ∀ j, j < w → Cg p (v j) 0 := by
  have hid : ∀ s, s < w → col s = s := by
    intro s hs
    have h1 := h.ge s hs
    -- col s ≤ s: there is no room above
    have h2 : ∀ d, s + d < w → col s + d ≤ col (s + d) := by
      intro d
      induction d with
      | zero => intro _; exact Nat.le_refl _
      | succ d ih => intro hd; have := h.asc (s + d) (s + (d + 1)) (by omega) (by omega); have := ih (by omega); omega
    have h3 := h2 (w - 1 - s) (by omega)
    have h4 := h.lt (w - 1) (by omega)
    rw [show s + (w - 1 - s) = w - 1 by omega] at h3
    omega
  intro j hj
  have h1 := hv j (by have := h.kn; omega)
  have e : sm w (fun c => M j c * v c) = sm w (fun c => if c = j then v c else 0) := sm_congr fun c hc => by
    have := h.unit c j hc (by have := h.kn; omega)
    rw [hid c hc] at this
    rw [this]
    by_cases hcj : c = j
    · rw [if_pos hcj, if_pos hcj.symm, Int.one_mul]
    · rw [if_neg hcj, if_neg (fun e => hcj e.symm), Int.zero_mul]
  rw [e, sm_one (f := v) hj] at h1
  exact h1
/-- if each pivot stands in its own place, the last column is the solution -/
theorem Rre.solve {c : Nat} (h : Rre p n (n + 1) M col n c) (hcol : ∀ s, s < n → col s = s) {v : Nat → Int} (hv : ∀ j, j < n → v j = M j n) (hl : v n = -1) : Nl p n (n + 1) M v := by
  intro r hr
  have e : sm (n + 1) (fun c => M r c * v c) = sm n (fun c => if c = r then v c else 0) + M r n * v n := by
    rw [sm]
    congr 1
    refine sm_congr fun c hc => ?_
    have := h.unit c r hc hr
    rw [hcol c hc] at this
    rw [this]
    by_cases hcr : c = r
    · rw [if_pos hcr, if_pos hcr.symm, Int.one_mul]
    · rw [if_neg hcr, if_neg (fun e => hcr e.symm), Int.zero_mul]
  rw [e, sm_one (f := v) hr, hv r hr, hl]
  have : M r n + M r n * -1 = 0 := by omega
  rw [this]
  exact .refl _ _
end
end Dt
/- The Chinese remainder theorem. -/
namespace Nt
open Dt

theorem cop_mul {n p d : Int} (hc : Int.gcd n p = 1) (h1 : n ∣ d) (h2 : p ∣ d) : n * p ∣ d := by
  obtain ⟨k, hk⟩ := h1
  have h3 : p ∣ k := by
    rw [hk] at h2
    refine Int.natAbs_dvd_natAbs.1 (Nat.Coprime.dvd_of_dvd_mul_left (k := p.natAbs) (m := n.natAbs) ?_ ?_)
    · have : Nat.gcd n.natAbs p.natAbs = 1 := hc
      exact (Nat.gcd_comm _ _).trans this
    · rw [← Int.natAbs_mul]; exact Int.natAbs_dvd_natAbs.2 h2
  obtain ⟨m, hm⟩ := h3
  exact ⟨m, by rw [hk, hm]; grind⟩
/-- one step: x + n k has the remainder r modulo p, and keeps the others -/
theorem crt_step {n p x r k v : Int} (hp : 0 < p) (hv : Cg p (n * v) 1) (hk : Cg p k ((r - x) * v)) : Cg p (x + n * k) r := by
  have h1 : Cg p (n * k) (n * ((r - x) * v)) := (Cg.refl p n).mul hk
  have h2 : Cg p (n * ((r - x) * v)) ((r - x) * 1) := by
    have e : n * ((r - x) * v) = (r - x) * (n * v) := by grind
    rw [e]
    exact (Cg.refl p (r - x)).mul hv
  have h3 := (Cg.refl p x).add (h1.trans h2)
  have e : x + (r - x) * 1 = r := by omega
  rwa [e] at h3
theorem crt_keep {n q x k y : Int} (h : q ∣ n) (hx : Cg q x y) : Cg q (x + n * k) y := by
  obtain ⟨m, hm⟩ := h
  obtain ⟨a, ha⟩ := hx
  exact ⟨a + m * k, by rw [hm, Int.mul_add]; have : q * m * k = q * (m * k) := by grind
                       omega⟩
/-- both in the symmetric range, and congruent: the same -/
theorem crt_uniq {n x y : Int} (hn : 0 < n) (h : n ∣ x - y) (hx : -n < 2 * x ∧ 2 * x ≤ n) (hy : -n < 2 * y ∧ 2 * y ≤ n) : x = y := by
  obtain ⟨k, hk⟩ := h
  have h1 : k < 1 := by
    refine Classical.byContradiction fun hno => ?_
    have : n * 1 ≤ n * k := Int.mul_le_mul_of_nonneg_left (by omega) (by omega)
    omega
  have h2 : -1 < k := by
    refine Classical.byContradiction fun hno => ?_
    have : n * k ≤ n * -1 := Int.mul_le_mul_of_nonneg_left (by omega) (by omega)
    omega
  have : k = 0 := by omega
  rw [this] at hk
  omega
end Nt
/- Lists of limbs of 32 bits: their values, and the machine's steps upon them. -/
namespace Lm
open Sx Go Vc

def B : Int := 4294967296
theorem B_eq : B = 4294967296 := rfl
theorem wc_u32 (x : Int) : wc .u32 x = x % B := by unfold wc B; rw [IntKind.wrap_u32]
theorem wc_u64 (x : Int) : wc .u64 x = x % 18446744073709551616 := by unfold wc; rw [IntKind.wrap_u64]
theorem wc_u64_in {x : Int} (h : 0 ≤ x ∧ x < 18446744073709551616) : wc .u64 x = x := by rw [wc_u64]; omega
theorem wc_u32_in {x : Int} (h : 0 ≤ x ∧ x < B) : wc .u32 x = x := by rw [wc_u32]; unfold B at *; omega
theorem wc_i64_in {x : Int} (h : -9223372036854775808 ≤ x ∧ x ≤ 9223372036854775807) : wc .i64 x = x := IntWalk.i64_in _ h
theorem wa_u64 {x y : Int} (h : 0 ≤ x + y ∧ x + y < 18446744073709551616) : wa .u64 x y = x + y := IntWalk.u64_in _ ⟨h.1, by omega⟩
theorem wm_u64 {x y : Int} (h : 0 ≤ x * y ∧ x * y < 18446744073709551616) : wm .u64 x y = x * y := IntWalk.u64_in _ ⟨h.1, by omega⟩
theorem ws_u64 (x y : Int) : ws .u64 x y = (x - y) % 18446744073709551616 := by unfold ws; rw [IntKind.wrap_u64]
theorem wa_u32 (x y : Int) : wa .u32 x y = (x + y) % B := by unfold wa B; rw [IntKind.wrap_u32]
theorem bv64 {x : Int} (h : 0 ≤ x ∧ x < 18446744073709551616) : (BitVec.ofInt 64 x).toNat = x.toNat := by
  rw [BitVec.toNat_ofInt]
  omega
theorem wand_low {x : Int} (h : 0 ≤ x ∧ x < 18446744073709551616) : wand .u64 x 4294967295 = x % B := by
  unfold wand
  have e : (BitVec.ofInt 64 x &&& BitVec.ofInt 64 4294967295).toNat = x.toNat % 4294967296 := by
    rw [BitVec.toNat_and, bv64 h, bv64 (by omega)]
    show x.toNat &&& 4294967295 = _
    exact Nat.and_two_pow_sub_one_eq_mod x.toNat 32
  show IntKind.u64.wrap ((BitVec.ofInt 64 x &&& BitVec.ofInt 64 4294967295).toNat : Int) = _
  rw [e, IntWalk.u64_in _ (by omega)]
  unfold B
  omega
theorem wand_one {x : Int} (h : 0 ≤ x ∧ x < 18446744073709551616) : wand .u64 x 1 = x % 2 := by
  unfold wand
  have e : (BitVec.ofInt 64 x &&& BitVec.ofInt 64 1).toNat = x.toNat % 2 := by
    rw [BitVec.toNat_and, bv64 h, bv64 (by omega)]
    exact Nat.and_two_pow_sub_one_eq_mod x.toNat 1
  show IntKind.u64.wrap ((BitVec.ofInt 64 x &&& BitVec.ofInt 64 1).toNat : Int) = _
  rw [e, IntWalk.u64_in _ (by omega)]
  omega
theorem wsrc32 {x : Int} (h : 0 ≤ x) : wsrc .u64 x 32 = x / B := by
  unfold wsrc B
  show x.fdiv (2 ^ 32) = _
  rw [Int.fdiv_eq_ediv_of_nonneg _ (by omega)]
  rfl
theorem wsrc63 {x : Int} (h : 0 ≤ x) : wsrc .u64 x 63 = x / 9223372036854775808 := by
  unfold wsrc
  show x.fdiv (2 ^ 63) = _
  rw [Int.fdiv_eq_ediv_of_nonneg _ (by omega)]
  rfl
theorem wslc32 {x : Int} (h : 0 ≤ x ∧ x < B) : wslc .u64 x 32 = x * B := by
  unfold wslc B at *
  show IntKind.u64.wrap (x * 2 ^ 32) = _
  rw [IntWalk.u64_in _ (by omega)]
  omega
theorem wor_hi {x y : Int} (hx : 0 ≤ x ∧ x < B) (hy : 0 ≤ y ∧ y < B) : wor .u64 (x * B) y = x * B + y := by
  unfold B at *
  unfold wor
  have e : (BitVec.ofInt 64 (x * 4294967296) ||| BitVec.ofInt 64 y).toNat = x.toNat * 4294967296 + y.toNat := by
    rw [BitVec.toNat_or, bv64 (by omega), bv64 (by omega)]
    have e1 : (x * 4294967296).toNat = 2 ^ 32 * x.toNat := by omega
    rw [e1, ← Nat.two_pow_add_eq_or_of_lt (by omega)]
    omega
  show IntKind.u64.wrap ((BitVec.ofInt 64 (x * 4294967296) ||| BitVec.ofInt 64 y).toNat : Int) = _
  rw [e, IntWalk.u64_in _ (by omega)]
  omega

/-- limbs -/
def LW (l : List Int) : Prop := ∀ x, x ∈ l → 0 ≤ x ∧ x < B
def lv : List Int → Int
  | [] => 0
  | x :: l => x + B * lv l
def pw : Nat → Int
  | 0 => 1
  | n + 1 => B * pw n
theorem pw_pos : ∀ n, 0 < pw n
  | 0 => by simp [pw]
  | n + 1 => by have := pw_pos n; unfold pw B; omega
theorem pw_add (m : Nat) : ∀ n, pw (m + n) = pw m * pw n
  | 0 => by simp [pw]
  | n + 1 => by
    have := pw_add m n
    simp only [pw, Nat.add_eq]
    rw [this]
    grind
theorem lv_nn : ∀ {l : List Int}, LW l → 0 ≤ lv l
  | [], _ => by simp [lv]
  | x :: l, h => by
    have h1 := lv_nn (l := l) (fun y hy => h y (by simp [hy]))
    have h2 := h x (by simp)
    unfold lv B
    omega
theorem lv_lt : ∀ {l : List Int}, LW l → lv l < pw l.length
  | [], _ => by simp [lv, pw]
  | x :: l, h => by
    have h1 := lv_lt (l := l) (fun y hy => h y (by simp [hy]))
    have h2 := h x (by simp)
    simp only [lv, List.length_cons, pw]
    unfold B at *
    omega
theorem lv_app : ∀ (a b : List Int), lv (a ++ b) = lv a + pw a.length * lv b
  | [], b => by simp [lv, pw]
  | x :: a, b => by
    have := lv_app a b
    simp only [List.cons_append, lv, List.length_cons, pw, this]
    grind
theorem lv_zeros : ∀ n, lv (List.replicate n 0) = 0
  | 0 => rfl
  | n + 1 => by simp [List.replicate_succ, lv, lv_zeros n]
theorem LW.tail {x : Int} {l : List Int} (h : LW (x :: l)) : LW l := fun y hy => h y (by simp [hy])
theorem LW.app {a b : List Int} : LW (a ++ b) ↔ LW a ∧ LW b := by
  unfold LW
  constructor
  · intro h; exact ⟨fun x hx => h x (by simp [hx]), fun x hx => h x (by simp [hx])⟩
  · rintro ⟨h1, h2⟩ x hx
    rcases List.mem_append.1 hx with hx | hx
    · exact h1 x hx
    · exact h2 x hx
theorem LW.one {x : Int} : LW [x] ↔ 0 ≤ x ∧ x < B := by simp [LW]
/-- the last limb is not zero -/
def Tm (l : List Int) : Prop := ∀ x, l.getLast? = some x → x ≠ 0
theorem tm_nil : Tm [] := by simp [Tm]
theorem tm_snoc {l : List Int} {x : Int} (h : x ≠ 0) : Tm (l ++ [x]) := by simp [Tm, h]
theorem tm_lower : ∀ {l : List Int}, LW l → Tm l → l ≠ [] → pw (l.length - 1) ≤ lv l := by
  intro l h ht hne
  obtain ⟨m, x, rfl⟩ : ∃ m x, l = m ++ [x] := ⟨l.dropLast, l.getLast hne, (List.dropLast_concat_getLast hne).symm⟩
  have hx := ht x (by simp)
  obtain ⟨h1, h2⟩ := LW.app.1 h
  have h3 := lv_nn h1
  have h4 := LW.one.1 h2
  rw [lv_app]
  simp only [List.length_append, List.length_singleton, Nat.add_sub_cancel, lv]
  have h5 := pw_pos m.length
  have : pw m.length * 1 ≤ pw m.length * x := Int.mul_le_mul_of_nonneg_left (by omega) (by omega)
  simp at this ⊢
  omega
theorem pw_mono {m n : Nat} (h : m ≤ n) : pw m ≤ pw n := by
  obtain ⟨k, rfl⟩ : ∃ k, n = m + k := ⟨n - m, by omega⟩
  rw [pw_add]
  have h1 := pw_pos m
  have h2 := pw_pos k
  have : pw m * 1 ≤ pw m * pw k := Int.mul_le_mul_of_nonneg_left (by omega) (by omega)
  omega
theorem tm_len {a b : List Int} (ha : LW a) (hb : LW b) (ta : Tm a) (tb : Tm b) (h : a.length < b.length) : lv a < lv b := by
  have h1 := lv_lt ha
  have h2 := tm_lower hb tb (by rintro rfl; simp at h)
  have h3 := pw_mono (m := a.length) (n := b.length - 1) (by omega)
  omega
theorem lv_inj : ∀ {a b : List Int}, LW a → LW b → a.length = b.length → lv a = lv b → a = b
  | [], [], _, _, _, _ => rfl
  | [], _ :: _, _, _, h, _ => by simp at h
  | _ :: _, [], _, _, h, _ => by simp at h
  | x :: a, y :: b, ha, hb, hl, he => by
    have hx := ha x (by simp)
    have hy := hb y (by simp)
    simp only [lv] at he
    unfold B at *
    have e1 : x = y := by omega
    subst e1
    have e2 : lv a = lv b := by omega
    rw [lv_inj ha.tail hb.tail (by simpa using hl) e2]
/-- trimmed lists with the same value are the same -/
theorem tm_inj {a b : List Int} (ha : LW a) (hb : LW b) (ta : Tm a) (tb : Tm b) (he : lv a = lv b) : a = b := by
  have h1 : ¬ a.length < b.length := fun h => by have := tm_len ha hb ta tb h; omega
  have h2 : ¬ b.length < a.length := fun h => by have := tm_len hb ha tb ta h; omega
  exact lv_inj ha hb (by omega) he
theorem lv_zero {a : List Int} (ha : LW a) (ta : Tm a) : lv a = 0 ↔ a = [] := by
  constructor
  · intro h
    exact tm_inj ha (by intro x hx; simp at hx) ta tm_nil h
  · rintro rfl; rfl
/-- the list without its zeros at the end -/
def trimL : List Int → List Int
  | [] => []
  | x :: l => match trimL l with
    | [] => if x = 0 then [] else [x]
    | m => x :: m
theorem trimL_lv : ∀ l : List Int, lv (trimL l) = lv l
  | [] => rfl
  | x :: l => by
    have ih := trimL_lv l
    unfold trimL
    cases h : trimL l with
    | nil =>
      rw [h] at ih
      simp only [lv] at ih
      simp only
      by_cases hx : x = 0
      · rw [if_pos hx]; simp only [lv, ← ih, hx]; rfl
      · rw [if_neg hx]; simp only [lv, ← ih]
    | cons y m =>
      rw [h] at ih
      simp only [lv] at ih ⊢
      rw [ih]
theorem trimL_lw : ∀ {l : List Int}, LW l → LW (trimL l)
  | [], h => h
  | x :: l, h => by
    have ih := trimL_lw h.tail
    unfold trimL
    cases e : trimL l with
    | nil =>
      simp only
      split
      · intro y hy; simp at hy
      · exact LW.one.2 (h x (by simp))
    | cons y m =>
      rw [e] at ih
      simp only
      intro z hz
      rcases List.mem_cons.1 hz with rfl | hz
      · exact h z (by simp)
      · exact ih z hz
theorem trimL_tm : ∀ l : List Int, Tm (trimL l)
  | [] => tm_nil
  | x :: l => by
    have ih := trimL_tm l
    unfold trimL
    cases e : trimL l with
    | nil =>
      simp only
      split
      · exact tm_nil
      · rename_i h; intro y hy; simp at hy; omega
    | cons y m =>
      rw [e] at ih
      simp only
      intro z hz
      refine ih z ?_
      rw [← hz, List.getLast?_cons_cons]
theorem trimL_of {l : List Int} (hl : LW l) (ht : Tm l) : trimL l = l := tm_inj (trimL_lw hl) hl (trimL_tm l) ht (trimL_lv l)
/-- digits of a number -/
theorem tm_ext {a : List Int} {b : List Int} (ha : LW a) (hb : LW b) (ta : Tm a) (h : lv a = lv b) : a = trimL b :=
  tm_inj ha (trimL_lw hb) ta (trimL_tm b) (by rw [trimL_lv, h])
end Lm
