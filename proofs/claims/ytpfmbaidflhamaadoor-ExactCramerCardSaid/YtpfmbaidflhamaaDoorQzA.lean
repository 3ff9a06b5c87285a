/- Determinants of integer matrices, by expansion along the first row: linear and alternating in the rows. -/
import Derived.Test.YtpfmbaidflhamaaDoorVcA
import Derived.Test.YtpfmbaidflhamaaDoorM4
import Derived.KernelRfl
set_option linter.unusedVariables false
set_option linter.unusedSimpArgs false
set_option maxHeartbeats 4000000
set_option maxRecDepth 10000
namespace Dt

/-- sums -/
def sm : Nat → (Nat → Int) → Int
  | 0, _ => 0
  | n + 1, f => sm n f + f n
theorem sm_congr {n : Nat} {f g : Nat → Int} (h : ∀ i, i < n → f i = g i) : sm n f = sm n g := by
  induction n with
  | zero => rfl
  | succ n ih => rw [sm, sm, ih fun i hi => h i (by omega), h n (by omega)]
theorem sm_zero {n : Nat} {f : Nat → Int} (h : ∀ i, i < n → f i = 0) : sm n f = 0 := by
  induction n with
  | zero => rfl
  | succ n ih => rw [sm, ih fun i hi => h i (by omega), h n (by omega)]; rfl
theorem sm_add (n : Nat) (f g : Nat → Int) : sm n (fun i => f i + g i) = sm n f + sm n g := by
  induction n with
  | zero => rfl
  | succ n ih => simp only [sm, ih]; omega
theorem sm_mul (n : Nat) (c : Int) (f : Nat → Int) : sm n (fun i => c * f i) = c * sm n f := by
  induction n with
  | zero => simp [sm]
  | succ n ih => simp only [sm, ih, Int.mul_add]
theorem sm_mul' (n : Nat) (c : Int) (f : Nat → Int) : sm n (fun i => f i * c) = sm n f * c := by
  induction n with
  | zero => simp [sm]
  | succ n ih => simp only [sm, ih, Int.add_mul]
theorem sm_lin (n : Nat) (s t : Int) (f g : Nat → Int) : sm n (fun i => s * f i + t * g i) = s * sm n f + t * sm n g := by
  rw [sm_add, sm_mul, sm_mul]
theorem sm_swap (n m : Nat) (f : Nat → Nat → Int) : sm n (fun i => sm m fun j => f i j) = sm m (fun j => sm n fun i => f i j) := by
  induction n with
  | zero => exact (sm_zero (n := m) fun _ _ => rfl).symm
  | succ n ih => simp only [sm]; rw [ih, ← sm_add]
theorem sm_one {n a : Nat} {f : Nat → Int} (h : a < n) : sm n (fun i => if i = a then f i else 0) = f a := by
  induction n with
  | zero => omega
  | succ n ih =>
    rw [sm]
    by_cases ha : a = n
    · subst ha
      rw [sm_zero (fun i hi => if_neg (by omega)), if_pos rfl]; omega
    · rw [ih (by omega), if_neg (by omega)]; omega
/-- a sum over all pairs of different indices, both orders at once -/
theorem sm_tri (N : Nat) (F : Nat → Nat → Int) : sm (N + 1) (fun j => sm N fun k => F j k) = sm (N + 1) (fun j => sm j fun k => F j k + F k (j - 1)) := by
  induction N with
  | zero => rfl
  | succ N ih =>
    have h1 : sm (N + 1) (fun j => sm (N + 1) fun k => F j k) = sm (N + 1) (fun j => sm N fun k => F j k) + sm (N + 1) (fun j => F j N) := by
      rw [← sm_add]; exact sm_congr fun j _ => rfl
    have h2 : ∀ G : Nat → Int, sm (N + 1 + 1) G = sm (N + 1) G + G (N + 1) := fun _ => rfl
    have h3 : sm (N + 1) (fun k => F (N + 1) k + F k N) = sm (N + 1) (fun k => F (N + 1) k) + sm (N + 1) (fun k => F k N) := sm_add _ _ _
    rw [h2, h2 (fun j => sm j fun k => F j k + F k (j - 1)), ← ih, h1, show N + 1 - 1 = N from rfl, h3]
    omega

abbrev Mx := Nat → Nat → Int
def sk (j k : Nat) : Nat := if k < j then k else k + 1
def mn (A : Mx) (j : Nat) : Mx := fun r c => A (r + 1) (sk j c)
def sg (j : Nat) : Int := if j % 2 = 0 then 1 else -1
theorem sg_succ (j : Nat) : sg (j + 1) = - sg j := by
  unfold sg
  by_cases h : j % 2 = 0
  · rw [if_pos h, if_neg (by omega)]
  · rw [if_neg h, if_pos (by omega)]; rfl
def det : Nat → Mx → Int
  | 0, _ => 1
  | n + 1, A => sm (n + 1) fun j => sg j * A 0 j * det n (mn A j)
theorem sk_lt {j k n : Nat} (hj : j < n + 1) (hk : k < n) : sk j k < n + 1 := by unfold sk; split <;> omega
theorem det_congr : ∀ {n : Nat} {A B : Mx}, (∀ i j, i < n → j < n → A i j = B i j) → det n A = det n B
  | 0, _, _, _ => rfl
  | n + 1, A, B, h => by
    rw [det, det]
    refine sm_congr fun j hj => ?_
    rw [h 0 j (by omega) hj, det_congr (A := mn A j) (B := mn B j) fun i k hi hk => h _ _ (by omega) (sk_lt hj hk)]
/-- a row is replaced -/
def up (A : Mx) (i : Nat) (v : Nat → Int) : Mx := fun r c => if r = i then v c else A r c
theorem mn_up0 (A : Mx) (v : Nat → Int) (j : Nat) : mn (up A 0 v) j = mn A j := by funext r c; simp [mn, up]
theorem mn_up (A : Mx) (i : Nat) (v : Nat → Int) (j : Nat) : mn (up A (i + 1) v) j = up (mn A j) i (fun c => v (sk j c)) := by funext r c; simp [mn, up]
theorem det_lin : ∀ {n i : Nat} (A : Mx) (s t : Int) (v w : Nat → Int), i < n → det n (up A i (fun c => s * v c + t * w c)) = s * det n (up A i v) + t * det n (up A i w)
  | 0, i, _, _, _, _, _, h => by omega
  | n + 1, 0, A, s, t, v, w, _ => by
    rw [det, det, det, ← sm_lin]
    refine sm_congr fun j hj => ?_
    rw [mn_up0, mn_up0, mn_up0]
    simp only [up, if_true]
    grind
  | n + 1, i + 1, A, s, t, v, w, h => by
    rw [det, det, det, ← sm_lin]
    refine sm_congr fun j hj => ?_
    rw [mn_up, mn_up, mn_up, det_lin (mn A j) s t (fun c => v (sk j c)) (fun c => w (sk j c)) (by omega)]
    simp only [up, show ¬ (0 = i + 1) by omega, if_false]
    grind
theorem mn_mn {A : Mx} {j k : Nat} (h : k < j) : ∀ r c, mn (mn A j) k r c = mn (mn A k) (j - 1) r c := by
  intro r c
  simp only [mn]
  congr 1
  unfold sk
  split <;> split <;> (try split) <;> (try split) <;> omega
/-- two adjacent rows are alike -/
theorem det_adj : ∀ {n i : Nat} {A : Mx}, i + 1 < n → (∀ c, c < n → A i c = A (i + 1) c) → det n A = 0
  | 0, _, _, h, _ => by omega
  | 1, _, _, h, _ => by omega
  | n + 2, 0, A, h, he => by
    have h1 : det (n + 2) A = sm (n + 2) fun j => sm (n + 1) fun k => (sg j * sg k) * (A 0 j * A 1 (sk j k)) * det n (mn (mn A j) k) := by
      rw [det]
      refine sm_congr fun j hj => ?_
      rw [det, ← sm_mul]
      refine sm_congr fun k hk => ?_
      have : mn A j 0 k = A 1 (sk j k) := rfl
      rw [this]
      grind
    rw [h1, sm_tri]
    refine sm_zero fun j hj => sm_zero fun k hk => ?_
    have hd : det n (mn (mn A j) k) = det n (mn (mn A k) (j - 1)) := det_congr fun r c _ _ => mn_mn hk r c
    have e1 : sk j k = k := by unfold sk; rw [if_pos hk]
    have e2 : sk k (j - 1) = j := by unfold sk; rw [if_neg (by omega)]; omega
    have e3 : sg j = - sg (j - 1) := by
      have := sg_succ (j - 1)
      rwa [show j - 1 + 1 = j by omega] at this
    rw [hd, e1, e2, ← he k (by omega), ← he j hj, e3]
    grind
  | n + 2, i + 1, A, h, he => by
    rw [det]
    refine sm_zero fun j hj => ?_
    rw [det_adj (i := i) (A := mn A j) (by omega) (fun c hc => he _ (sk_lt hj hc)), Int.mul_zero]

/-- forms that are linear in each row, and zero if two adjacent rows are alike -/
structure Am (n : Nat) (D : Mx → Int) : Prop where
  congr : ∀ A B, (∀ i j, i < n → j < n → A i j = B i j) → D A = D B
  lin : ∀ A i (s t : Int) v w, i < n → D (up A i (fun c => s * v c + t * w c)) = s * D (up A i v) + t * D (up A i w)
  adj : ∀ A i, i + 1 < n → (∀ c, c < n → A i c = A (i + 1) c) → D A = 0
theorem det_am (n : Nat) : Am n (det n) := ⟨fun A B h => det_congr h, fun A i s t v w h => det_lin A s t v w h, fun A i h he => det_adj h he⟩
theorem up_self (A : Mx) (i : Nat) : up A i (A i) = A := by funext r c; simp only [up]; split <;> simp_all
theorem up_up (A : Mx) (i : Nat) (v w : Nat → Int) : up (up A i v) i w = up A i w := by funext r c; simp only [up]; split <;> rfl
theorem up_comm (A : Mx) {i k : Nat} (h : i ≠ k) (v w : Nat → Int) : up (up A i v) k w = up (up A k w) i v := by
  funext r c; simp only [up]; by_cases h1 : r = k <;> by_cases h2 : r = i <;> simp [h1, h2] <;> omega
/-- rows i and k change places -/
def sw (A : Mx) (i k : Nat) : Mx := fun r c => if r = i then A k c else if r = k then A i c else A r c
section
variable {n : Nat} {D : Mx → Int}
theorem Am.add (h : Am n D) (A : Mx) {i : Nat} (hi : i < n) (v w : Nat → Int) : D (up A i (fun c => v c + w c)) = D (up A i v) + D (up A i w) := by
  have := h.lin A i 1 1 v w hi
  simpa using this
/-- if equal rows give zero, exchanged rows change the sign -/
theorem Am.sw_of (h : Am n D) {i k : Nat} (hi : i < n) (hk : k < n) (hik : i ≠ k) (he : ∀ A, (∀ c, c < n → A i c = A k c) → D A = 0) (A : Mx) : D (sw A i k) = - D A := by
  let u := A i
  let v := A k
  let F : (Nat → Int) → (Nat → Int) → Mx := fun x y => up (up A i x) k y
  have hz : ∀ x, D (F x x) = 0 := fun x => he _ (fun c _ => by simp [F, up, hik])
  have hl : ∀ x y z, D (F (fun c => x c + y c) z) = D (F x z) + D (F y z) := by
    intro x y z
    simp only [F]
    rw [up_comm A hik, up_comm A hik, up_comm A hik, h.add _ hi]
  have hr : ∀ x y z, D (F z (fun c => x c + y c)) = D (F z x) + D (F z y) := fun x y z => h.add _ hk _ _
  have h0 := hz (fun c => u c + v c)
  rw [hl, hr, hr, hz, hz] at h0
  have e1 : D (F u v) = D A := h.congr _ _ fun r c _ _ => by
    simp only [F, up]; split
    · rename_i h; subst h; rfl
    · split
      · rename_i h; subst h; rfl
      · rfl
  have e2 : D (F v u) = D (sw A i k) := h.congr _ _ fun r c _ _ => by
    simp only [F, up, sw]
    by_cases h1 : r = k
    · rw [if_pos h1, if_neg (by omega), if_pos h1]
    · rw [if_neg h1]
      by_cases h2 : r = i
      · rw [if_pos h2, if_pos h2]
      · rw [if_neg h2, if_neg h2, if_neg h1]
  omega
theorem Am.eq (h : Am n D) : ∀ (d i : Nat) (A : Mx), i + d + 1 < n → (∀ c, c < n → A i c = A (i + d + 1) c) → D A = 0 := by
  intro d
  induction d with
  | zero => exact fun i A hi he => h.adj A i hi he
  | succ d ih =>
    intro i A hi he
    have hs := h.sw_of (i := i + d + 1) (k := i + d + 2) (by omega) (by omega) (by omega) (fun B hB => h.adj B (i + d + 1) (by omega) hB) A
    have hz := ih i (sw A (i + d + 1) (i + d + 2)) (by omega) (fun c hc => by
      simp only [sw]
      rw [if_neg (by omega), if_neg (by omega)]
      simp only [if_true]
      exact he c hc)
    rw [hz] at hs
    omega
theorem Am.equal (h : Am n D) {i k : Nat} (hi : i < n) (hk : k < n) (hik : i ≠ k) (A : Mx) (he : ∀ c, c < n → A i c = A k c) : D A = 0 := by
  by_cases hlt : i < k
  · have := h.eq (k - i - 1) i A (by omega) (fun c hc => by rw [show i + (k - i - 1) + 1 = k by omega]; exact he c hc)
    exact this
  · have := h.eq (i - k - 1) k A (by omega) (fun c hc => by rw [show k + (i - k - 1) + 1 = i by omega]; exact (he c hc).symm)
    exact this
/-- exchanged rows change the sign -/
theorem Am.swap (h : Am n D) {i k : Nat} (hi : i < n) (hk : k < n) (hik : i ≠ k) (A : Mx) : D (sw A i k) = - D A :=
  h.sw_of hi hk hik (fun B hB => h.equal hi hk hik B hB) A
/-- a multiple of another row may be added -/
theorem Am.addrow (h : Am n D) {i k : Nat} (hi : i < n) (hk : k < n) (hik : i ≠ k) (A : Mx) (t : Int) : D (up A i (fun c => A i c + t * A k c)) = D A := by
  have h1 := h.lin A i 1 t (A i) (A k) hi
  have h2 : D (up A i (A k)) = 0 := h.equal hi hk hik _ (fun c _ => by simp [up, Ne.symm hik])
  rw [h2, up_self] at h1
  simpa using h1
theorem Am.scale (h : Am n D) {i : Nat} (hi : i < n) (A : Mx) (t : Int) : D (up A i (fun c => t * A i c)) = t * D A := by
  have h1 := h.lin A i t 0 (A i) (A i) hi
  rw [up_self] at h1
  simpa using h1
theorem Am.zero (h : Am n D) {i : Nat} (hi : i < n) (A : Mx) (he : ∀ c, c < n → A i c = 0) : D A = 0 := by
  have h1 := h.scale hi A 0
  have h2 : D (up A i (fun c => 0 * A i c)) = D A := h.congr _ _ fun r c hr hc => by
    simp only [up]; split
    · rename_i e; subst e; rw [he c hc]; rfl
    · rfl
  rw [h2] at h1
  simpa using h1
/-- a row that is a sum -/
theorem Am.sum (h : Am n D) {i : Nat} (hi : i < n) (A : Mx) : ∀ (m : Nat) (x : Nat → Int) (V : Nat → Nat → Int), D (up A i (fun c => sm m fun j => x j * V j c)) = sm m fun j => x j * D (up A i (V j)) := by
  intro m x V
  induction m with
  | zero => exact h.zero hi _ (fun c _ => by simp [up, sm])
  | succ m ih =>
    simp only [sm]
    rw [h.add A hi (fun c => sm m fun j => x j * V j c) (fun c => x m * V m c), ih]
    congr 1
    have := h.lin A i (x m) 0 (V m) (V m) hi
    simpa using this
end
end Dt
/- Determinants: the only form of its kind; products; transposes. -/
namespace Dt

def one : Mx := fun r c => if r = c then 1 else 0
def unit (j : Nat) : Nat → Int := fun c => if c = j then 1 else 0
/-- row 0 is a unit row, the others have zeros in its column -/
def ins (j : Nat) (M : Mx) : Mx := fun r c => if r = 0 then unit j c else if c = j then 0 else M (r - 1) (if c < j then c else c - 1)
theorem ins_sk (j : Nat) (M : Mx) (r c : Nat) : ins j M (r + 1) (sk j c) = M r c := by
  unfold ins sk
  rw [if_neg (by omega)]
  by_cases h : c < j
  · rw [if_pos h, if_neg (by omega), if_pos h]; rfl
  · rw [if_neg h, if_neg (by omega), if_neg (by omega)]; rfl
theorem mn_ins (j : Nat) (M : Mx) : mn (ins j M) j = M := by funext r c; exact ins_sk j M r c
theorem ins_up (j : Nat) (M : Mx) (i : Nat) (v : Nat → Int) : ins j (up M i v) = up (ins j M) (i + 1) (fun c => if c = j then 0 else v (if c < j then c else c - 1)) := by
  funext r c
  unfold ins up
  by_cases h0 : r = 0
  · subst h0; simp
  · by_cases h1 : r = i + 1
    · subst h1; simp
    · simp only [h0, h1, if_false]
      by_cases h2 : c = j
      · rw [if_pos h2, if_pos h2]
      · rw [if_neg h2, if_neg h2, if_neg (by omega)]
theorem ins_am {n : Nat} {D : Mx → Int} (h : Am (n + 1) D) {j : Nat} (hj : j < n + 1) : Am n fun M => D (ins j M) := by
  refine ⟨fun A B he => h.congr _ _ fun r c hr hc => ?_, fun A i s t v w hi => ?_, fun A i hi he => ?_⟩
  · unfold ins
    by_cases h0 : r = 0
    · rw [if_pos h0, if_pos h0]
    · rw [if_neg h0, if_neg h0]
      by_cases h2 : c = j
      · rw [if_pos h2, if_pos h2]
      · rw [if_neg h2, if_neg h2]
        refine he _ _ (by omega) ?_
        split <;> omega
  · simp only [ins_up]
    have := h.lin (ins j A) (i + 1) s t (fun c => if c = j then 0 else v (if c < j then c else c - 1)) (fun c => if c = j then 0 else w (if c < j then c else c - 1)) (by omega)
    rw [← this]
    congr 2
    funext c
    split
    · simp
    · rfl
  · refine h.adj (ins j A) (i + 1) (by omega) fun c hc => ?_
    have e : ∀ r, r ≠ 0 → ins j A r c = if c = j then 0 else A (r - 1) (if c < j then c else c - 1) := fun r hr => by unfold ins; rw [if_neg hr]
    rw [e _ (by omega), e _ (by omega)]
    by_cases h2 : c = j
    · rw [if_pos h2, if_pos h2]
    · rw [if_neg h2, if_neg h2]
      exact he _ (by split <;> omega)
/-- multiples of row 0 are added to the rows below m -/
def addm (A : Mx) (x : Nat → Int) (m : Nat) : Mx := fun r c => if 0 < r ∧ r < m then A r c + x r * A 0 c else A r c
theorem addm_in {A : Mx} {x : Nat → Int} {m r c : Nat} (h : 0 < r ∧ r < m) : addm A x m r c = A r c + x r * A 0 c := by unfold addm; rw [if_pos h]
theorem addm_out {A : Mx} {x : Nat → Int} {m r c : Nat} (h : ¬ (0 < r ∧ r < m)) : addm A x m r c = A r c := by unfold addm; rw [if_neg h]
theorem up_in {A : Mx} {i c : Nat} {v : Nat → Int} : up A i v i c = v c := by unfold up; rw [if_pos rfl]
theorem up_out {A : Mx} {i r c : Nat} {v : Nat → Int} (h : r ≠ i) : up A i v r c = A r c := by unfold up; rw [if_neg h]
theorem Am.addm {n : Nat} {D : Mx → Int} (h : Am n D) (A : Mx) (x : Nat → Int) : ∀ m, m ≤ n → D (addm A x m) = D A := by
  intro m
  induction m with
  | zero => exact fun _ => h.congr _ _ fun r c _ _ => addm_out (by omega)
  | succ m ih =>
    intro hm
    rw [← ih (by omega)]
    by_cases h0 : m = 0
    · subst h0
      exact h.congr _ _ fun r c _ _ => by rw [addm_out (by omega), addm_out (by omega)]
    · have := h.addrow (i := m) (k := 0) (by omega) (by omega) h0 (Dt.addm A x m) (x m)
      rw [← this]
      refine h.congr _ _ fun r c _ _ => ?_
      by_cases hr : r = m
      · subst hr
        rw [addm_in (by omega), up_in, addm_out (by omega), addm_out (by omega)]
      · rw [up_out hr]
        by_cases h1 : 0 < r ∧ r < m
        · rw [addm_in (by omega), addm_in h1]
        · rw [addm_out (by omega), addm_out h1]
theorem if_iff {p q : Prop} [Decidable p] [Decidable q] (h : p ↔ q) : (if p then (1 : Int) else 0) = if q then 1 else 0 := by
  by_cases hp : p
  · rw [if_pos hp, if_pos (h.1 hp)]
  · rw [if_neg hp, if_neg (fun hq => hp (h.2 hq))]
theorem ins_one (j r c : Nat) : ins j one r c = if (r = 0 ∧ c = j) ∨ (0 < r ∧ r ≤ j ∧ c + 1 = r) ∨ (j < r ∧ c = r) then 1 else 0 := by
  unfold ins one unit
  by_cases h0 : r = 0
  · rw [if_pos h0]
    exact if_iff (by omega)
  · rw [if_neg h0]
    by_cases h1 : c = j
    · rw [if_pos h1, if_neg (by omega)]
    · rw [if_neg h1]
      by_cases h2 : c < j
      · rw [if_pos h2]; exact if_iff (by omega)
      · rw [if_neg h2]; exact if_iff (by omega)
theorem det_ins_one {n : Nat} {D : Mx → Int} (h : Am (n + 1) D) : ∀ j, j < n + 1 → D (ins j one) = sg j * D one := by
  intro j
  induction j with
  | zero =>
    intro _
    rw [show sg 0 = 1 from rfl, Int.one_mul]
    refine h.congr _ _ fun r c _ _ => ?_
    rw [ins_one]
    unfold one
    exact if_iff (by omega)
  | succ j ih =>
    intro hj
    have hs := h.swap (i := 0) (k := j + 1) (by omega) hj (by omega) (ins j one)
    rw [ih (by omega)] at hs
    rw [sg_succ, Int.neg_mul, ← hs]
    refine h.congr _ _ fun r c _ _ => ?_
    show ins (j + 1) one r c = if r = 0 then ins j one (j + 1) c else if r = j + 1 then ins j one 0 c else ins j one r c
    by_cases h0 : r = 0
    · rw [if_pos h0, ins_one, ins_one]; exact if_iff (by omega)
    · rw [if_neg h0]
      by_cases h1 : r = j + 1
      · rw [if_pos h1, ins_one, ins_one]; exact if_iff (by omega)
      · rw [if_neg h1, ins_one, ins_one]; exact if_iff (by omega)
/-- a form that is linear and alternating in the rows is a multiple of the determinant -/
theorem Am.uniq : ∀ {n : Nat} {D : Mx → Int}, Am n D → ∀ A, D A = det n A * D one
  | 0, D, h, A => by
    rw [det, Int.one_mul]
    exact h.congr _ _ fun r c hr _ => by omega
  | n + 1, D, h, A => by
    have h0 : D A = sm (n + 1) fun j => A 0 j * D (up A 0 (unit j)) := by
      rw [← h.sum (by omega) A (n + 1) (A 0) unit]
      refine h.congr _ _ fun r c hr hc => ?_
      simp only [up]
      split
      · rename_i e
        subst e
        have := sm_one (n := n + 1) (a := c) (f := A 0) hc
        rw [← this]
        refine sm_congr fun i hi => ?_
        unfold unit
        by_cases e : i = c
        · rw [if_pos e, if_pos e.symm, Int.mul_one]
        · rw [if_neg e, if_neg (fun e' => e e'.symm), Int.mul_zero]
      · rfl
    rw [h0, det, ← sm_mul']
    refine sm_congr fun j hj => ?_
    have h1 : D (up A 0 (unit j)) = D (ins j (mn A j)) := by
      rw [← h.addm (ins j (mn A j)) (fun r => A r j) (n + 1) (by omega)]
      refine h.congr _ _ fun r c hr hc => ?_
      unfold Dt.addm up
      by_cases e0 : r = 0
      · subst e0
        rw [if_pos rfl, if_neg (by omega)]
        unfold ins
        rw [if_pos rfl]
      · rw [if_neg e0, if_pos (by omega)]
        unfold ins mn
        simp only [if_true, if_neg e0]
        unfold unit
        by_cases e : c = j
        · subst e; rw [if_pos rfl, if_pos rfl]; omega
        · rw [if_neg e, if_neg e, show r - 1 + 1 = r by omega]
          unfold sk
          by_cases e2 : c < j
          · rw [if_pos e2, if_pos e2]; omega
          · rw [if_neg e2, if_neg (by omega), show c - 1 + 1 = c by omega]; omega
    have h2 : D (ins j (mn A j)) = det n (mn A j) * D (ins j one) := Am.uniq (ins_am h hj) (mn A j)
    rw [h1, h2, det_ins_one h j hj]
    grind
theorem det_one : ∀ n, det n one = 1
  | 0 => rfl
  | n + 1 => by
    have h1 : det (n + 1) one = sm (n + 1) fun j => if j = 0 then det n (mn one 0) else 0 := by
      rw [det]
      refine sm_congr fun j hj => ?_
      unfold one
      by_cases h : j = 0
      · subst h; simp [sg]
      · rw [if_neg (by omega), if_neg h]; simp
    rw [h1, sm_one (f := fun _ => det n (mn one 0)) (by omega), ← det_one n]
    refine det_congr fun r c _ _ => ?_
    unfold mn one
    have : sk 0 c = c + 1 := rfl
    rw [this]
    exact if_iff (by omega)

/-- the product -/
def mul (n : Nat) (A B : Mx) : Mx := fun r c => sm n fun k => A r k * B k c
theorem mul_up (n : Nat) (A B : Mx) (i : Nat) (v : Nat → Int) : mul n (up A i v) B = up (mul n A B) i (fun c => sm n fun k => v k * B k c) := by
  funext r c
  unfold mul up
  by_cases h : r = i
  · simp only [if_pos h]
  · simp only [if_neg h]
theorem mul_am (n : Nat) (B : Mx) : Am n fun A => det n (mul n A B) := by
  refine ⟨fun A C he => det_congr fun r c hr hc => sm_congr fun k hk => by rw [he r k hr hk], fun A i s t v w hi => ?_, fun A i hi he => ?_⟩
  · simp only [mul_up]
    rw [← det_lin _ s t _ _ hi]
    congr 2
    funext c
    rw [← sm_lin]
    refine sm_congr fun k _ => ?_
    grind
  · refine det_adj hi fun c hc => sm_congr fun k hk => by rw [he k hk]
theorem one_mul {n : Nat} {B : Mx} {r c : Nat} (hr : r < n) : mul n one B r c = B r c := by
  unfold mul
  rw [← sm_one (f := fun k => B k c) hr]
  refine sm_congr fun k hk => ?_
  unfold one
  by_cases h : r = k
  · rw [if_pos h, if_pos h.symm, Int.one_mul]
  · rw [if_neg h, if_neg (fun e => h e.symm), Int.zero_mul]
/-- determinants are multiplicative -/
theorem det_mul (n : Nat) (A B : Mx) : det n (mul n A B) = det n A * det n B := by
  have h : det n (mul n A B) = det n A * det n (mul n one B) := (mul_am n B).uniq A
  rw [h]
  congr 1
  exact det_congr fun r c hr hc => one_mul hr

/-- the transpose -/
def tp (A : Mx) : Mx := fun r c => A c r
/-- linear in a column -/
theorem det_col_lin : ∀ {n i : Nat} (A : Mx) (s t : Int) (v w : Nat → Int), i < n → det n (tp (up (tp A) i (fun c => s * v c + t * w c))) = s * det n (tp (up (tp A) i v)) + t * det n (tp (up (tp A) i w))
  | 0, i, _, _, _, _, _, h => by omega
  | n + 1, i, A, s, t, v, w, h => by
    rw [det, det, det, ← sm_lin]
    refine sm_congr fun j hj => ?_
    by_cases hji : j = i
    · subst hji
      have e : ∀ x, mn (tp (up (tp A) j x)) j = mn A j := by
        intro x
        funext r c
        simp only [mn, tp, up]
        rw [if_neg]
        unfold sk
        split <;> omega
      rw [e, e, e]
      simp only [tp, up, if_true]
      grind
    · -- the column's place in the minor
      have e : ∀ x, mn (tp (up (tp A) i x)) j = tp (up (tp (mn A j)) (if i < j then i else i - 1) (fun c => x (c + 1))) := by
        intro x
        funext r c
        simp only [mn, tp, up]
        have : (sk j c = i) ↔ (c = if i < j then i else i - 1) := by
          unfold sk
          split <;> split <;> omega
        by_cases h1 : sk j c = i
        · rw [if_pos h1, if_pos (this.1 h1)]
        · rw [if_neg h1, if_neg (fun h2 => h1 (this.2 h2))]
      rw [e, e, e, det_col_lin (mn A j) s t (fun c => v (c + 1)) (fun c => w (c + 1)) (by split <;> omega)]
      have e2 : ∀ x, tp (up (tp A) i x) 0 j = A 0 j := by
        intro x
        simp only [tp, up]
        rw [if_neg hji]
      rw [e2, e2, e2]
      grind
/-- two adjacent columns are alike -/
theorem det_col_adj : ∀ {n i : Nat} {A : Mx}, i + 1 < n → (∀ r, r < n → A r i = A r (i + 1)) → det n A = 0
  | 0, _, _, h, _ => by omega
  | n + 1, i, A, h, he => by
    have hz : ∀ j, j < n + 1 → j ≠ i → j ≠ i + 1 → det n (mn A j) = 0 := by
      intro j hj h1 h2
      refine det_col_adj (i := if i < j then i else i - 1) (by split <;> omega) fun r hr => ?_
      simp only [mn]
      have e1 : sk j (if i < j then i else i - 1) = i := by unfold sk; split <;> (try split) <;> omega
      have e2 : sk j ((if i < j then i else i - 1) + 1) = i + 1 := by unfold sk; split <;> (try split) <;> omega
      rw [e1, e2]
      exact he _ (by omega)
    have hm : det n (mn A i) = det n (mn A (i + 1)) := by
      refine det_congr fun r c hr hc => ?_
      simp only [mn]
      unfold sk
      by_cases h1 : c < i
      · rw [if_pos h1, if_pos (by omega)]
      · rw [if_neg h1]
        by_cases h2 : c = i
        · subst h2; rw [if_pos (by omega)]; exact (he _ (by omega)).symm
        · rw [if_neg (by omega)]
    rw [det]
    have hs : sm (n + 1) (fun j => sg j * A 0 j * det n (mn A j)) = sm (n + 1) (fun j => (if j = i then sg i * A 0 i * det n (mn A i) else 0) + (if j = i + 1 then sg (i + 1) * A 0 (i + 1) * det n (mn A (i + 1)) else 0)) := by
      refine sm_congr fun j hj => ?_
      by_cases h1 : j = i
      · subst h1; rw [if_pos rfl, if_neg (by omega)]; omega
      · by_cases h2 : j = i + 1
        · subst h2; rw [if_neg h1, if_pos rfl]; omega
        · rw [if_neg h1, if_neg h2, hz j hj h1 h2]; simp
    rw [hs, sm_add, sm_one (f := fun _ => sg i * A 0 i * det n (mn A i)) (by omega), sm_one (f := fun _ => sg (i + 1) * A 0 (i + 1) * det n (mn A (i + 1))) h, sg_succ, hm, ← he 0 (by omega)]
    grind
theorem tp_am (n : Nat) : Am n fun A => det n (tp A) := by
  refine ⟨fun A B he => det_congr fun r c hr hc => he c r hc hr, fun A i s t v w hi => ?_, fun A i hi he => det_col_adj hi fun r hr => he r hr⟩
  exact det_col_lin (tp A) s t v w hi
theorem det_tp (n : Nat) (A : Mx) : det n (tp A) = det n A := by
  have h : det n (tp A) = det n A * det n (tp one) := (tp_am n).uniq A
  rw [h]
  have : det n (tp one) = 1 := by
    rw [← det_one n]
    exact det_congr fun r c _ _ => by unfold tp one; exact if_iff (by omega)
  rw [this, Int.mul_one]
end Dt
/- The adjugate; Cramer's rule; matrices with determinant other than zero. -/
namespace Dt

/-- multiples of row k are added to the rows below m -/
def adds (A : Mx) (k : Nat) (x : Nat → Int) (m : Nat) : Mx := fun r c => if r ≠ k ∧ r < m then A r c + x r * A k c else A r c
theorem adds_in {A : Mx} {x : Nat → Int} {k m r c : Nat} (h : r ≠ k ∧ r < m) : adds A k x m r c = A r c + x r * A k c := by unfold adds; rw [if_pos h]
theorem adds_out {A : Mx} {x : Nat → Int} {k m r c : Nat} (h : ¬ (r ≠ k ∧ r < m)) : adds A k x m r c = A r c := by unfold adds; rw [if_neg h]
theorem Am.adds {n : Nat} {D : Mx → Int} (h : Am n D) (A : Mx) {k : Nat} (hk : k < n) (x : Nat → Int) : ∀ m, m ≤ n → D (adds A k x m) = D A := by
  intro m
  induction m with
  | zero => exact fun _ => h.congr _ _ fun r c _ _ => adds_out (by omega)
  | succ m ih =>
    intro hm
    rw [← ih (by omega)]
    by_cases h0 : m = k
    · subst h0
      refine h.congr _ _ fun r c _ _ => ?_
      by_cases h1 : r ≠ m ∧ r < m + 1
      · rw [adds_in h1, adds_in (by omega)]
      · rw [adds_out h1, adds_out (by omega)]
    · have := h.addrow (i := m) (k := k) (by omega) hk h0 (Dt.adds A k x m) (x m)
      rw [← this]
      refine h.congr _ _ fun r c _ _ => ?_
      by_cases hr : r = m
      · subst hr
        rw [adds_in (by omega), up_in, adds_out (by omega), adds_out (by omega)]
      · rw [up_out hr]
        by_cases h1 : r ≠ k ∧ r < m
        · rw [adds_in (by omega), adds_in h1]
        · rw [adds_out (by omega), adds_out h1]
/-- row j is the unit row i, and nothing else is in column i -/
def cl (A : Mx) (j i : Nat) : Mx := fun r c => if r = j then unit i c else if c = i then 0 else A r c
theorem det_cl {n : Nat} (A : Mx) {j i : Nat} (hj : j < n) : det n (up A j (unit i)) = det n (cl A j i) := by
  rw [← (det_am n).adds (up A j (unit i)) hj (fun r => - A r i) n (by omega)]
  refine det_congr fun r c hr hc => ?_
  by_cases h : r = j
  · subst h
    rw [adds_out (by omega), up_in]
    unfold cl
    rw [if_pos rfl]
  · rw [adds_in ⟨h, hr⟩, up_out h, up_in]
    unfold cl unit
    rw [if_neg h]
    by_cases h2 : c = i
    · rw [if_pos h2, if_pos h2, h2]; omega
    · rw [if_neg h2, if_neg h2]; omega
/-- the adjugate -/
def adj (n : Nat) (A : Mx) : Mx := fun i j => det n (up A j (unit i))
theorem adj_tp {n : Nat} (A : Mx) {i j : Nat} (hi : i < n) (hj : j < n) : adj n (tp A) j i = adj n A i j := by
  unfold adj
  rw [det_cl _ hi, det_cl _ hj, ← det_tp n (cl (tp A) i j)]
  refine det_congr fun r c _ _ => ?_
  simp only [tp, cl, unit]
  by_cases h1 : c = i
  · rw [if_pos h1]
    by_cases h2 : r = j
    · rw [if_pos h2, if_pos h2, if_pos h1]
    · rw [if_neg h2, if_neg h2, if_pos h1]
  · rw [if_neg h1]
    by_cases h2 : r = j
    · rw [if_pos h2, if_pos h2, if_neg h1]
    · rw [if_neg h2, if_neg h2, if_neg h1]
/-- a row as a sum of unit rows -/
theorem row_sum {n : Nat} (v : Nat → Int) {c : Nat} (hc : c < n) : sm n (fun j => v j * unit j c) = v c := by
  rw [← sm_one (f := v) hc]
  refine sm_congr fun j _ => ?_
  unfold unit
  by_cases h : j = c
  · rw [if_pos h, if_pos h.symm, Int.mul_one]
  · rw [if_neg h, if_neg (fun e => h e.symm), Int.mul_zero]
theorem det_up_row {n : Nat} (A : Mx) {j : Nat} (hj : j < n) (v : Nat → Int) : sm n (fun c => v c * adj n A c j) = det n (up A j v) := by
  unfold adj
  rw [← (det_am n).sum hj A n v unit]
  refine det_congr fun r c hr hc => ?_
  by_cases h : r = j
  · subst h; rw [up_in, up_in]; exact row_sum v hc
  · rw [up_out h, up_out h]
/-- A adj(A) = det(A) -/
theorem mul_adj {n : Nat} (A : Mx) {r j : Nat} (hr : r < n) (hj : j < n) : sm n (fun c => A r c * adj n A c j) = if r = j then det n A else 0 := by
  rw [det_up_row A hj (A r)]
  by_cases h : r = j
  · subst h; rw [if_pos rfl, up_self]
  · rw [if_neg h]
    refine (det_am n).equal hr hj h _ fun c _ => ?_
    rw [up_out h, up_in]
/-- adj(A) A = det(A) -/
theorem adj_mul {n : Nat} (A : Mx) {i c : Nat} (hi : i < n) (hc : c < n) : sm n (fun j => adj n A i j * A j c) = if i = c then det n A else 0 := by
  have h := mul_adj (tp A) hc hi
  have e : sm n (fun j => tp A c j * adj n (tp A) j i) = sm n (fun j => adj n A i j * A j c) := sm_congr fun j hj => by
    rw [adj_tp A hi hj]
    show A j c * _ = _
    rw [Int.mul_comm]
  rw [← e, h, det_tp]
  by_cases h : i = c
  · rw [if_pos h, if_pos h.symm]
  · rw [if_neg h, if_neg (fun e => h e.symm)]
/-- the only row vector that a regular matrix maps to zero -/
theorem row_zero {n : Nat} {A : Mx} (hd : det n A ≠ 0) {w : Nat → Int} (h : ∀ c, c < n → sm n (fun r => w r * A r c) = 0) : ∀ r, r < n → w r = 0 := by
  intro i hi
  have h1 : sm n (fun c => sm n (fun r => w r * A r c) * adj n A c i) = 0 := sm_zero fun c hc => by rw [h c hc, Int.zero_mul]
  have h2 : sm n (fun c => sm n (fun r => w r * A r c) * adj n A c i) = w i * det n A := by
    have e : sm n (fun c => sm n (fun r => w r * A r c) * adj n A c i) = sm n (fun c => sm n fun r => w r * (A r c * adj n A c i)) := sm_congr fun c _ => by
      rw [← sm_mul']; exact sm_congr fun r _ => by grind
    rw [e, sm_swap]
    have e2 : sm n (fun r => sm n fun c => w r * (A r c * adj n A c i)) = sm n (fun r => if r = i then w r * det n A else 0) := sm_congr fun r hr => by
      rw [sm_mul, mul_adj A hr hi]
      by_cases h : r = i
      · rw [if_pos h, if_pos h]
      · rw [if_neg h, if_neg h, Int.mul_zero]
    rw [e2, sm_one (f := fun r => w r * det n A) hi]
  rw [h1] at h2
  rcases Int.mul_eq_zero.1 h2.symm with h3 | h3
  · exact h3
  · exact absurd h3 hd
/-- the only column vector that a regular matrix maps to zero -/
theorem col_zero {n : Nat} {A : Mx} (hd : det n A ≠ 0) {w : Nat → Int} (h : ∀ r, r < n → sm n (fun c => A r c * w c) = 0) : ∀ c, c < n → w c = 0 := by
  refine row_zero (A := tp A) (by rw [det_tp]; exact hd) fun c hc => ?_
  rw [← h c hc]
  exact sm_congr fun r _ => Int.mul_comm _ _
/-- Cramer's rule: with x the determinants where a column is replaced by b, A x = det(A) b -/
theorem cramer {n : Nat} (A : Mx) (b : Nat → Int) {r : Nat} (hr : r < n) : sm n (fun c => A r c * det n (tp (up (tp A) c b))) = det n A * b r := by
  have h1 : ∀ c, c < n → det n (tp (up (tp A) c b)) = sm n (fun j => adj n A c j * b j) := by
    intro c hc
    rw [det_tp, ← det_up_row (tp A) hc b]
    refine sm_congr fun j hj => ?_
    rw [adj_tp A hc hj, Int.mul_comm]
  have e : sm n (fun c => A r c * det n (tp (up (tp A) c b))) = sm n (fun c => sm n fun j => A r c * adj n A c j * b j) := sm_congr fun c hc => by
    rw [h1 c hc, ← sm_mul]; exact sm_congr fun j _ => by grind
  rw [e, sm_swap]
  have e2 : sm n (fun j => sm n fun c => A r c * adj n A c j * b j) = sm n (fun j => if j = r then det n A * b j else 0) := sm_congr fun j hj => by
    rw [sm_mul', mul_adj A hr hj]
    by_cases h : r = j
    · rw [if_pos h, if_pos h.symm]
    · rw [if_neg h, if_neg (fun e => h e.symm), Int.zero_mul]
  rw [e2, sm_one (f := fun j => det n A * b j) hr]
/-- a solution is the one of Cramer's rule -/
theorem cramer_uniq {n : Nat} (A : Mx) (x b : Nat → Int) (h : ∀ r, r < n → sm n (fun c => A r c * x c) = b r) {c : Nat} (hc : c < n) : det n A * x c = det n (tp (up (tp A) c b)) := by
  have h1 : det n (tp (up (tp A) c b)) = sm n (fun j => adj n A c j * b j) := by
    rw [det_tp, ← det_up_row (tp A) hc b]
    exact sm_congr fun j hj => by rw [adj_tp A hc hj, Int.mul_comm]
  rw [h1]
  have e : sm n (fun j => adj n A c j * b j) = sm n (fun j => sm n fun k => adj n A c j * A j k * x k) := sm_congr fun j hj => by
    rw [← h j hj, ← sm_mul]; exact sm_congr fun k _ => by grind
  rw [e, sm_swap]
  have e2 : sm n (fun k => sm n fun j => adj n A c j * A j k * x k) = sm n (fun k => if k = c then det n A * x k else 0) := sm_congr fun k hk => by
    rw [sm_mul', adj_mul A hc hk]
    by_cases h : c = k
    · rw [if_pos h, if_pos h.symm]
    · rw [if_neg h, if_neg (fun e => h e.symm), Int.zero_mul]
  rw [e2, sm_one (f := fun k => det n A * x k) hc]
end Dt
/- Elimination without fractions (Bareiss, also above the diagonal): every element is a minor, so each division is exact. -/
namespace Dt

/-- the matrix with one more row and column, of which only the corner is not zero -/
def ext (n : Nat) (M : Mx) : Mx := fun r c => if r = n ∨ c = n then (if r = c then 1 else 0) else M r c
theorem ext_e {n r c : Nat} {M : Mx} (h : r = n ∨ c = n) : ext n M r c = if r = c then 1 else 0 := by unfold ext; rw [if_pos h]
theorem ext_i {n r c : Nat} {M : Mx} (h : ¬ (r = n ∨ c = n)) : ext n M r c = M r c := by unfold ext; rw [if_neg h]
theorem det_ext (n : Nat) (M : Mx) : det (n + 1) (ext n M) = det n M := by
  have ha : Am n fun M => det (n + 1) (ext n M) := by
    refine ⟨fun A B he => det_congr fun r c hr hc => ?_, fun A i s t v w hi => ?_, fun A i hi he => det_adj (i := i) (by omega) fun c hc => ?_⟩
    · by_cases h : r = n ∨ c = n
      · rw [ext_e h, ext_e h]
      · rw [ext_i h, ext_i h]; exact he r c (by omega) (by omega)
    · have e : ∀ x : Nat → Int, ext n (up A i x) = up (ext n A) i (fun c => if c = n then 0 else x c) := by
        intro x
        funext r c
        by_cases h1 : r = i
        · subst h1
          rw [up_in]
          by_cases h2 : c = n
          · rw [ext_e (.inr h2), if_pos h2, if_neg (by omega)]
          · rw [ext_i (by omega), if_neg h2, up_in]
        · rw [up_out h1]
          by_cases h2 : r = n ∨ c = n
          · rw [ext_e h2, ext_e h2]
          · rw [ext_i h2, ext_i h2, up_out h1]
      simp only [e]
      rw [← det_lin _ s t _ _ (by omega)]
      congr 2
      funext c
      by_cases h : c = n
      · simp [h]
      · simp [h]
    · by_cases h : c = n
      · rw [ext_e (.inr h), ext_e (.inr h), if_neg (by omega), if_neg (by omega)]
      · rw [ext_i (by omega), ext_i (by omega)]; exact he c (by omega)
  have h : det (n + 1) (ext n M) = det n M * det (n + 1) (ext n one) := ha.uniq M
  have h1 : det (n + 1) (ext n one) = 1 := by
    rw [← det_one (n + 1)]
    refine det_congr fun r c _ _ => ?_
    by_cases h : r = n ∨ c = n
    · rw [ext_e h]; rfl
    · rw [ext_i h]
  rw [h, h1, Int.mul_one]

section
variable (A : Mx) (col : Nat → Nat)
def Pm_ : Mx := fun r s => A r (col s)
/-- the matrix after k steps, whose pivots are in rows below k and columns col -/
def Rk (k : Nat) : Mx := fun i j => if i < k then sm k (fun t => adj k (Pm_ A col) i t * A t j) else det k (Pm_ A col) * A i j - sm k (fun s => A i (col s) * sm k (fun t => adj k (Pm_ A col) s t * A t j))
variable {A col}
theorem Rk_lt {k i j : Nat} (h : i < k) : Rk A col k i j = sm k (fun t => adj k (Pm_ A col) i t * A t j) := by unfold Rk; rw [if_pos h]
theorem Rk_ge {k i j : Nat} (h : ¬ i < k) : Rk A col k i j = det k (Pm_ A col) * A i j - sm k (fun s => A i (col s) * sm k (fun t => adj k (Pm_ A col) s t * A t j)) := by unfold Rk; rw [if_neg h]
theorem Rk_piv {k i s : Nat} (hi : i < k) (hs : s < k) : Rk A col k i (col s) = if i = s then det k (Pm_ A col) else 0 := by
  rw [Rk_lt hi]
  exact adj_mul (Pm_ A col) hi hs
theorem Rk_below {k i s : Nat} (hi : ¬ i < k) (hs : s < k) : Rk A col k i (col s) = 0 := by
  rw [Rk_ge hi]
  have e : sm k (fun s' => A i (col s') * sm k (fun t => adj k (Pm_ A col) s' t * A t (col s))) = sm k (fun s' => if s' = s then A i (col s') * det k (Pm_ A col) else 0) := sm_congr fun s' hs' => by
    have : sm k (fun t => adj k (Pm_ A col) s' t * A t (col s)) = if s' = s then det k (Pm_ A col) else 0 := adj_mul (Pm_ A col) hs' hs
    rw [this]
    by_cases h : s' = s
    · rw [if_pos h, if_pos h]
    · rw [if_neg h, if_neg h, Int.mul_zero]
  rw [e, sm_one (f := fun s' => A i (col s') * det k (Pm_ A col)) hs, Int.mul_comm]
  omega
/-- row i, beyond the pivots, as a combination of the first rows and itself -/
def bt (A : Mx) (col : Nat → Nat) (k i t : Nat) : Int := sm k fun s => A i (col s) * adj k (Pm_ A col) s t
theorem Rk_row {k i j : Nat} (h : ¬ i < k) : Rk A col k i j = det k (Pm_ A col) * A i j - sm k (fun t => bt A col k i t * A t j) := by
  rw [Rk_ge h]
  congr 1
  have e : sm k (fun s => A i (col s) * sm k (fun t => adj k (Pm_ A col) s t * A t j)) = sm k (fun s => sm k fun t => A i (col s) * adj k (Pm_ A col) s t * A t j) := sm_congr fun s _ => by
    rw [← sm_mul]; exact sm_congr fun t _ => by grind
  rw [e, sm_swap]
  exact sm_congr fun t _ => by rw [sm_mul']; rfl
/-- the next pivot is the next minor -/
theorem det_next {k : Nat} (hd : det k (Pm_ A col) ≠ 0) : det (k + 1) (Pm_ A col) = Rk A col k k (col k) := by
  let P := Pm_ A col
  have h1 : det (k + 1) (up P k (fun s => det k P * P k s)) = det k P * det (k + 1) P := (det_am (k + 1)).scale (by omega) P (det k P)
  -- the combination of the other rows is taken off
  have h2 : ∀ m, m ≤ k → det (k + 1) (up P k (fun s => det k P * P k s - sm m (fun t => bt A col k k t * P t s))) = det k P * det (k + 1) P := by
    intro m
    induction m with
    | zero =>
      intro _
      rw [← h1]
      congr 2
      funext s
      simp [sm]
    | succ m ih =>
      intro hm
      rw [← ih (by omega)]
      have h3 := (det_am (k + 1)).addrow (i := k) (k := m) (by omega) (by omega) (by omega) (up P k (fun s => det k P * P k s - sm m (fun t => bt A col k k t * P t s))) (- bt A col k k m)
      rw [← h3, up_up]
      refine det_congr fun r c _ _ => ?_
      by_cases hr : r = k
      · subst hr
        rw [up_in, up_in, up_in, up_out (by omega)]
        simp only [sm]
        grind
      · rw [up_out hr, up_out hr]
  have h4 := h2 k (by omega)
  have h5 : det (k + 1) (up P k (fun s => det k P * P k s - sm k (fun t => bt A col k k t * P t s))) = det (k + 1) (up P k (fun s => Rk A col k k (col k) * unit k s)) := by
    refine det_congr fun r c hr hc => ?_
    by_cases h : r = k
    · subst h
      rw [up_in, up_in]
      have e : det r P * P r c - sm r (fun t => bt A col r r t * P t c) = Rk A col r r (col c) := (Rk_row (by omega)).symm
      rw [e]
      unfold unit
      by_cases hcr : c = r
      · rw [if_pos hcr, hcr, Int.mul_one]
      · rw [if_neg hcr, Int.mul_zero]
        exact Rk_below (by omega) (by omega)
    · rw [up_out h, up_out h]
  have h6 : det (k + 1) (up P k (fun s => Rk A col k k (col k) * unit k s)) = Rk A col k k (col k) * det (k + 1) (up P k (unit k)) := by
    have := (det_am (k + 1)).scale (i := k) (by omega) (up P k (unit k)) (Rk A col k k (col k))
    rw [← this, up_up]
    congr 2
    funext s
    rw [up_in]
  have h7 : det (k + 1) (up P k (unit k)) = det k P := by
    rw [det_cl P (by omega), ← det_ext k P]
    refine det_congr fun r c hr hc => ?_
    by_cases h1 : r = k
    · subst h1
      rw [ext_e (.inl rfl)]
      unfold cl unit
      rw [if_pos rfl]
      exact if_iff eq_comm
    · unfold cl
      rw [if_neg h1]
      by_cases h2 : c = k
      · rw [if_pos h2, ext_e (.inr h2), if_neg (by omega)]
      · rw [if_neg h2, ext_i (by omega)]
  rw [h5, h6, h7] at h4
  have h8 : det k P * (det (k + 1) P - Rk A col k k (col k)) = 0 := by rw [Int.mul_sub, ← h4]; grind
  rcases Int.mul_eq_zero.1 h8 with h9 | h9
  · exact absurd h9 hd
  · show det (k + 1) P = _
    omega
/-- the row of the pivot stays -/
theorem Rk_top {k j : Nat} (hd : det k (Pm_ A col) ≠ 0) (hn : Rk A col k k (col k) ≠ 0) : Rk A col (k + 1) k j = Rk A col k k j := by
  have hdn := det_next hd
  let w : Nat → Int := fun t => (if t = k then det k (Pm_ A col) else - bt A col k k t) - adj (k + 1) (Pm_ A col) k t
  have hcomb : ∀ j, sm (k + 1) (fun t => w t * A t j) = Rk A col k k j - Rk A col (k + 1) k j := by
    intro j
    rw [Rk_row (k := k) (i := k) (by omega), Rk_lt (k := k + 1) (i := k) (by omega)]
    have e : sm (k + 1) (fun t => w t * A t j) = sm (k + 1) (fun t => (if t = k then det k (Pm_ A col) else - bt A col k k t) * A t j) - sm (k + 1) (fun t => adj (k + 1) (Pm_ A col) k t * A t j) := by
      have := sm_lin (k + 1) 1 (-1) (fun t => (if t = k then det k (Pm_ A col) else - bt A col k k t) * A t j) (fun t => adj (k + 1) (Pm_ A col) k t * A t j)
      have e2 : sm (k + 1) (fun t => w t * A t j) = sm (k + 1) (fun t => 1 * ((if t = k then det k (Pm_ A col) else - bt A col k k t) * A t j) + -1 * (adj (k + 1) (Pm_ A col) k t * A t j)) := sm_congr fun t _ => by simp only [w]; grind
      rw [e2, this]
      omega
    rw [e]
    congr 1
    rw [sm, if_pos rfl]
    have e3 : sm k (fun t => (if t = k then det k (Pm_ A col) else - bt A col k k t) * A t j) = -1 * sm k (fun t => bt A col k k t * A t j) := by
      rw [← sm_mul]
      exact sm_congr fun t ht => by rw [if_neg (by omega)]; grind
    rw [e3]
    omega
  have hz : ∀ t, t < k + 1 → w t = 0 := by
    refine row_zero (A := Pm_ A col) (n := k + 1) (by rw [hdn]; exact hn) fun s hs => ?_
    have := hcomb (col s)
    rw [show sm (k + 1) (fun r => w r * Pm_ A col r s) = sm (k + 1) (fun t => w t * A t (col s)) from rfl, this, Rk_piv (k := k + 1) (by omega) hs, hdn]
    by_cases h : k = s
    · subst h; rw [if_pos rfl]; omega
    · rw [if_neg h, Rk_below (k := k) (by omega) (by omega)]; rfl
  have h1 := hcomb j
  rw [sm_zero (fun t ht => by rw [hz t ht, Int.zero_mul])] at h1
  omega
/-- a step: every division is exact -/
theorem Rk_step {k i j : Nat} (hd : det k (Pm_ A col) ≠ 0) (hn : Rk A col k k (col k) ≠ 0) (hik : i ≠ k) :
    Rk A col k k (col k) * Rk A col k i j - Rk A col k i (col k) * Rk A col k k j = det k (Pm_ A col) * Rk A col (k + 1) i j := by
  have hdn := det_next hd
  -- what is left is a combination w of the rows up to k
  suffices hw : ∃ w : Nat → Int, ∀ j, sm (k + 1) (fun t => w t * A t j) = Rk A col k k (col k) * Rk A col k i j - Rk A col k i (col k) * Rk A col k k j - det k (Pm_ A col) * Rk A col (k + 1) i j by
    obtain ⟨w, hcomb⟩ := hw
    have hz : ∀ t, t < k + 1 → w t = 0 := by
      refine row_zero (A := Pm_ A col) (n := k + 1) (by rw [hdn]; exact hn) fun s hs => ?_
      rw [show sm (k + 1) (fun r => w r * Pm_ A col r s) = sm (k + 1) (fun t => w t * A t (col s)) from rfl, hcomb]
      have hR : Rk A col (k + 1) i (col s) = if i = s then Rk A col k k (col k) else 0 := by
        by_cases hi : i < k
        · rw [Rk_piv (k := k + 1) (by omega) hs, hdn]
        · rw [Rk_below (k := k + 1) (by omega) hs, if_neg (by omega)]
      rw [hR]
      by_cases hsk : s = k
      · subst hsk; rw [if_neg hik]; grind
      · have h0 : Rk A col k k (col s) = 0 := Rk_below (by omega) (by omega)
        rw [h0]
        by_cases hi : i < k
        · rw [Rk_piv hi (by omega)]
          by_cases his : i = s
          · rw [if_pos his, if_pos his]; grind
          · rw [if_neg his, if_neg his]; simp
        · rw [Rk_below hi (by omega), if_neg (by omega)]; simp
    have h1 := hcomb j
    rw [sm_zero (fun t ht => by rw [hz t ht, Int.zero_mul])] at h1
    omega
  have hk0 : ∀ j, Rk A col k k j = det k (Pm_ A col) * A k j - sm k (fun t => bt A col k k t * A t j) := fun j => Rk_row (by omega)
  have hsplit : ∀ (f : Nat → Int) (g : Nat → Int) (x : Int) (j : Nat), sm (k + 1) (fun t => (if t = k then x else f t) * A t j) = sm k (fun t => f t * A t j) + x * A k j := by
    intro f g x j
    rw [sm, if_pos rfl]
    congr 1
    exact sm_congr fun t ht => by rw [if_neg (by omega)]
  generalize hN : Rk A col k k (col k) = N at *
  by_cases hi : i < k
  · refine ⟨fun t => (if t = k then - (Rk A col k i (col k) * det k (Pm_ A col)) else N * adj k (Pm_ A col) i t + Rk A col k i (col k) * bt A col k k t) + - det k (Pm_ A col) * adj (k + 1) (Pm_ A col) i t, fun j => ?_⟩
    rw [hk0, Rk_lt (k := k + 1) (i := i) (by omega), Rk_lt (k := k) (i := i) (j := j) hi]
    have e : sm (k + 1) (fun t => ((if t = k then - (Rk A col k i (col k) * det k (Pm_ A col)) else N * adj k (Pm_ A col) i t + Rk A col k i (col k) * bt A col k k t) + - det k (Pm_ A col) * adj (k + 1) (Pm_ A col) i t) * A t j)
        = sm (k + 1) (fun t => (if t = k then - (Rk A col k i (col k) * det k (Pm_ A col)) else N * adj k (Pm_ A col) i t + Rk A col k i (col k) * bt A col k k t) * A t j) + - det k (Pm_ A col) * sm (k + 1) (fun t => adj (k + 1) (Pm_ A col) i t * A t j) := by
      rw [← sm_mul, ← sm_add]
      exact sm_congr fun t _ => by grind
    rw [e, hsplit (fun t => N * adj k (Pm_ A col) i t + Rk A col k i (col k) * bt A col k k t) (fun _ => 0)]
    have e2 : sm k (fun t => (N * adj k (Pm_ A col) i t + Rk A col k i (col k) * bt A col k k t) * A t j) = N * sm k (fun t => adj k (Pm_ A col) i t * A t j) + Rk A col k i (col k) * sm k (fun t => bt A col k k t * A t j) := by
      rw [← sm_mul, ← sm_mul, ← sm_add]
      exact sm_congr fun t _ => by grind
    rw [e2]
    grind
  · refine ⟨fun t => (if t = k then - (Rk A col k i (col k) * det k (Pm_ A col)) else - N * bt A col k i t + Rk A col k i (col k) * bt A col k k t) + det k (Pm_ A col) * bt A col (k + 1) i t, fun j => ?_⟩
    rw [hk0, Rk_row (k := k + 1) (i := i) (by omega), Rk_row (k := k) (i := i) (j := j) hi, hdn]
    have e : sm (k + 1) (fun t => ((if t = k then - (Rk A col k i (col k) * det k (Pm_ A col)) else - N * bt A col k i t + Rk A col k i (col k) * bt A col k k t) + det k (Pm_ A col) * bt A col (k + 1) i t) * A t j)
        = sm (k + 1) (fun t => (if t = k then - (Rk A col k i (col k) * det k (Pm_ A col)) else - N * bt A col k i t + Rk A col k i (col k) * bt A col k k t) * A t j) + det k (Pm_ A col) * sm (k + 1) (fun t => bt A col (k + 1) i t * A t j) := by
      rw [← sm_mul, ← sm_add]
      exact sm_congr fun t _ => by grind
    rw [e, hsplit (fun t => - N * bt A col k i t + Rk A col k i (col k) * bt A col k k t) (fun _ => 0)]
    have e2 : sm k (fun t => (- N * bt A col k i t + Rk A col k i (col k) * bt A col k k t) * A t j) = - N * sm k (fun t => bt A col k i t * A t j) + Rk A col k i (col k) * sm k (fun t => bt A col k k t * A t j) := by
      rw [← sm_mul, ← sm_mul, ← sm_add]
      exact sm_congr fun t _ => by grind
    rw [e2]
    grind
end
end Dt
/- The run of the elimination: which pivots are taken, and what is left. -/
namespace Dt

theorem adj_congr {n : Nat} {A B : Mx} (h : ∀ i j, i < n → j < n → A i j = B i j) {i j : Nat} : adj n A i j = adj n B i j := by
  unfold adj
  refine det_congr fun r c hr hc => ?_
  by_cases h1 : r = j
  · subst h1; rw [up_in, up_in]
  · rw [up_out h1, up_out h1, h r c hr hc]
theorem Rk_congr {A A' : Mx} {col col' : Nat → Nat} {k i j : Nat} (hc : ∀ s, s < k → col s = col' s) (ht : ∀ t j, t < k → A t j = A' t j) (hi : ∀ j, A i j = A' i j) : Rk A col k i j = Rk A' col' k i j := by
  have hP : ∀ r s, r < k → s < k → Pm_ A col r s = Pm_ A' col' r s := fun r s hr hs => by unfold Pm_; rw [hc s hs, ht r _ hr]
  have hs : ∀ s, sm k (fun t => adj k (Pm_ A col) s t * A t j) = sm k (fun t => adj k (Pm_ A' col') s t * A' t j) := fun s => sm_congr fun t htk => by rw [adj_congr hP, ht t j htk]
  by_cases h : i < k
  · rw [Rk_lt h, Rk_lt h, hs]
  · rw [Rk_ge h, Rk_ge h, hi j, det_congr hP]
    congr 1
    exact sm_congr fun s hsk => by rw [hs, hi, hc s hsk]
def setC (col : Nat → Nat) (k c : Nat) : Nat → Nat := fun s => if s = k then c else col s
theorem setC_lt {col : Nat → Nat} {k c s : Nat} (h : s < k) : setC col k c s = col s := by unfold setC; rw [if_neg (by omega)]
theorem setC_at {col : Nat → Nat} {k c : Nat} : setC col k c k = c := by unfold setC; rw [if_pos rfl]
theorem Rk_setC {A : Mx} {col : Nat → Nat} {k c i j : Nat} : Rk A (setC col k c) k i j = Rk A col k i j := Rk_congr (fun s hs => setC_lt hs) (fun _ _ _ => rfl) (fun _ => rfl)
theorem det_setC {A : Mx} {col : Nat → Nat} {k c : Nat} : det k (Pm_ A (setC col k c)) = det k (Pm_ A col) := det_congr fun r s hr hs => by unfold Pm_; rw [setC_lt hs]
/-- rows behind the pivots are exchanged -/
theorem Rk_sw {A : Mx} {col : Nat → Nat} {k a i j : Nat} (ha : k ≤ a) : Rk (sw A k a) col k i j = if i = k then Rk A col k a j else if i = a then Rk A col k k j else Rk A col k i j := by
  have ht : ∀ t j, t < k → sw A k a t j = A t j := fun t j h => by unfold sw; rw [if_neg (by omega), if_neg (by omega)]
  have hP : ∀ r s, r < k → s < k → Pm_ (sw A k a) col r s = Pm_ A col r s := fun r s hr hs => by unfold Pm_; rw [ht r _ hr]
  have hrow : ∀ b, ¬ i < k → ¬ b < k → (∀ j, sw A k a i j = A b j) → Rk (sw A k a) col k i j = Rk A col k b j := by
    intro b h1 h2 h3
    rw [Rk_ge h1, Rk_ge h2, h3, det_congr hP]
    congr 1
    exact sm_congr fun s _ => by
      rw [h3]
      congr 1
      exact sm_congr fun t htk => by rw [adj_congr hP, ht t j htk]
  by_cases h1 : i = k
  · subst h1; rw [if_pos rfl]; exact hrow a (by omega) (by omega) (fun j => by unfold sw; rw [if_pos rfl])
  · rw [if_neg h1]
    by_cases h2 : i = a
    · subst h2; rw [if_pos rfl]; exact hrow k (by omega) (by omega) (fun j => by unfold sw; rw [if_neg h1, if_pos rfl])
    · rw [if_neg h2]; exact Rk_congr (fun _ _ => rfl) ht (fun j => by unfold sw; rw [if_neg h1, if_neg h2])

def tr2 (k a i : Nat) : Nat := if i = k then a else if i = a then k else i
theorem tr2_tr2 (k a i : Nat) : tr2 k a (tr2 k a i) = i := by
  unfold tr2
  by_cases e1 : i = k
  · rw [if_pos e1]
    by_cases e2 : a = k
    · rw [if_pos e2]; omega
    · rw [if_neg e2, if_pos rfl, e1]
  · rw [if_neg e1]
    by_cases e2 : i = a
    · rw [if_pos e2, if_pos rfl, e2]
    · rw [if_neg e2, if_neg e1, if_neg e2]
theorem tr2_lt {n k a i : Nat} (hk : k < n) (ha : a < n) (hi : i < n) : tr2 k a i < n := by unfold tr2; split <;> (try split) <;> omega
/-- the elimination on its way: A' are the rows of A in another order, columns below c are done -/
structure Bar (n w : Nat) (A A' : Mx) (col : Nat → Nat) (k c : Nat) (sn : Int) : Prop where
  kn : k ≤ n
  cw : c ≤ w
  d : det k (Pm_ A' col) ≠ 0
  lt : ∀ s, s < k → col s < c
  asc : ∀ s t, s < t → t < k → col s < col t
  zero : ∀ i j, k ≤ i → i < n → j < c → Rk A' col k i j = 0
  lead : ∀ s j, s < k → j < col s → Rk A' col k s j = 0
  perm : ∃ x xi : Nat → Nat, (∀ i, i < n → x i < n ∧ xi i < n ∧ xi (x i) = i ∧ x (xi i) = i) ∧ ∀ i j, i < n → A' i j = A (x i) j
  sg : (sn = 1 ∨ sn = -1) ∧ det n A' = sn * det n A
theorem Bar.start {n w : Nat} {A : Mx} {col : Nat → Nat} : Bar n w A A col 0 0 1 :=
  ⟨by omega, by omega, by simp [det], fun s h => by omega, fun s t h h' => by omega, fun i j _ _ h => by omega, fun s j h => by omega, ⟨id, id, fun i hi => ⟨hi, hi, rfl, rfl⟩, fun i j _ => rfl⟩, .inl rfl, by omega⟩
section
variable {n w : Nat} {A A' : Mx} {col : Nat → Nat} {k c : Nat} {sn : Int}
theorem Rk_zero {A : Mx} {col : Nat → Nat} {i j : Nat} : Rk A col 0 i j = A i j := by
  rw [Rk_ge (by omega)]
  simp [sm, det]
theorem Bar.none (h : Bar n w A A' col k c sn) (hc : c < w) (hz : ∀ i, k ≤ i → i < n → Rk A' col k i c = 0) : Bar n w A A' col k (c + 1) sn := by
  refine ⟨h.kn, hc, h.d, fun s hs => by have := h.lt s hs; omega, h.asc, fun i j h1 h2 h3 => ?_, h.lead, h.perm, h.sg⟩
  by_cases hj : j = c
  · subst hj; exact hz i h1 h2
  · exact h.zero i j h1 h2 (by omega)
/-- a pivot is found in row a -/
theorem Bar.pivot (h : Bar n w A A' col k c sn) (hc : c < w) {a : Nat} (hka : k ≤ a) (han : a < n) (hne : Rk A' col k a c ≠ 0) :
    Bar n w A (sw A' k a) (setC col k c) (k + 1) (c + 1) (if a = k then sn else -sn) ∧
    det (k + 1) (Pm_ (sw A' k a) (setC col k c)) = Rk A' col k a c ∧
    (∀ j, Rk (sw A' k a) (setC col k c) (k + 1) k j = Rk A' col k a j) ∧
    ∀ i j, i ≠ k → Rk A' col k a c * Rk (sw A' k a) col k i j - Rk (sw A' k a) col k i c * Rk A' col k a j = det k (Pm_ A' col) * Rk (sw A' k a) (setC col k c) (k + 1) i j := by
  have hd0 : det k (Pm_ (sw A' k a) (setC col k c)) = det k (Pm_ A' col) := by
    rw [det_setC]
    exact det_congr fun r s hr hs => by unfold Pm_ sw; rw [if_neg (by omega), if_neg (by omega)]
  have hd : det k (Pm_ (sw A' k a) (setC col k c)) ≠ 0 := by rw [hd0]; exact h.d
  have hR : ∀ i j, Rk (sw A' k a) (setC col k c) k i j = Rk (sw A' k a) col k i j := fun i j => Rk_setC
  have hk : ∀ j, Rk (sw A' k a) (setC col k c) k k j = Rk A' col k a j := fun j => by rw [hR, Rk_sw hka, if_pos rfl]
  have hn : Rk (sw A' k a) (setC col k c) k k (setC col k c k) ≠ 0 := by rw [setC_at, hk]; exact hne
  have hnext := det_next hd
  rw [setC_at, hk] at hnext
  have htop : ∀ j, Rk (sw A' k a) (setC col k c) (k + 1) k j = Rk A' col k a j := fun j => by rw [Rk_top hd hn, hk]
  have hstep : ∀ i j, i ≠ k → Rk A' col k a c * Rk (sw A' k a) col k i j - Rk (sw A' k a) col k i c * Rk A' col k a j = det k (Pm_ A' col) * Rk (sw A' k a) (setC col k c) (k + 1) i j := by
    intro i j hik
    have := Rk_step (j := j) hd hn hik
    rw [setC_at, hk, hk, hd0, hR, hR] at this
    exact this
  refine ⟨⟨by omega, hc, by rw [hnext]; exact hne, fun s hs => ?_, fun s t hs ht => ?_, fun i j h1 h2 h3 => ?_, fun s j hs hj => ?_, ?_, ?_⟩, hnext, htop, hstep⟩
  · by_cases hsk : s = k
    · subst hsk; rw [setC_at]; omega
    · rw [setC_lt (by omega)]; have := h.lt s (by omega); omega
  · rw [setC_lt (by omega)]
    by_cases htk : t = k
    · subst htk; rw [setC_at]; exact h.lt s hs
    · rw [setC_lt (by omega)]; exact h.asc s t hs (by omega)
  · have hz : ∀ j, j < c → Rk (sw A' k a) col k i j = 0 := by
      intro j hj
      rw [Rk_sw hka]
      split
      · exact h.zero a j hka han hj
      · split
        · exact h.zero k j (by omega) (by omega) hj
        · exact h.zero i j (by omega) h2 hj
    have hs := hstep i j (by omega)
    have h0 : det k (Pm_ A' col) * Rk (sw A' k a) (setC col k c) (k + 1) i j = 0 := by
      by_cases hj : j = c
      · subst hj; rw [← hs]; grind
      · rw [← hs, hz j (by omega), h.zero a j hka han (by omega)]; simp
    rcases Int.mul_eq_zero.1 h0 with h4 | h4
    · exact absurd h4 h.d
    · exact h4
  · by_cases hsk : s = k
    · subst hsk
      rw [setC_at] at hj
      rw [htop]
      exact h.zero a j hka han hj
    · rw [setC_lt (by omega)] at hj
      have hlt := h.lt s (by omega)
      have hss := hstep s j hsk
      have h1 : Rk (sw A' k a) col k s j = 0 := by
        rw [Rk_sw hka, if_neg hsk, if_neg (by omega)]
        exact h.lead s j (by omega) hj
      rw [h1, h.zero a j hka han (by omega)] at hss
      have h0 : det k (Pm_ A' col) * Rk (sw A' k a) (setC col k c) (k + 1) s j = 0 := by rw [← hss]; simp
      rcases Int.mul_eq_zero.1 h0 with h4 | h4
      · exact absurd h4 h.d
      · exact h4
  · obtain ⟨x, xi, hx, hA⟩ := h.perm
    have hkn : k < n := by omega
    refine ⟨fun i => x (tr2 k a i), fun i => tr2 k a (xi i), fun i hi => ?_, fun i j hi => ?_⟩
    · have h1 := hx _ (tr2_lt hkn han hi)
      have h2 := hx i hi
      refine ⟨h1.1, tr2_lt hkn han h2.2.1, ?_, ?_⟩
      · show tr2 k a (xi (x (tr2 k a i))) = i
        rw [h1.2.2.1, tr2_tr2]
      · show x (tr2 k a (tr2 k a (xi i))) = i
        rw [tr2_tr2]; exact h2.2.2.2
    · show sw A' k a i j = A (x (tr2 k a i)) j
      rw [← hA _ j (tr2_lt hkn han hi)]
      unfold sw tr2
      by_cases e1 : i = k
      · rw [if_pos e1, if_pos e1]
      · rw [if_neg e1, if_neg e1]
        by_cases e2 : i = a
        · rw [if_pos e2, if_pos e2]
        · rw [if_neg e2, if_neg e2]
  · obtain ⟨h1, h2⟩ := h.sg
    by_cases hak : a = k
    · rw [if_pos hak]
      refine ⟨h1, ?_⟩
      rw [← h2]
      refine det_congr fun r c _ _ => ?_
      unfold sw
      by_cases e : r = k
      · rw [if_pos e, e, hak]
      · rw [if_neg e, if_neg (by omega)]
    · rw [if_neg hak, (det_am n).swap (by omega) han (fun e => hak e.symm) A', h2]
      exact ⟨by omega, by grind⟩
/-- a pivot in each row of a square matrix: the last pivot is the determinant, but for the sign -/
theorem Bar.det_ok (h : Bar n n A A' col n c sn) : det n (Pm_ A' col) = sn * det n A := by
  have hge : ∀ s, s < n → s ≤ col s := by
    intro s
    induction s with
    | zero => intro _; omega
    | succ s ih =>
      intro hs
      have h1 := ih (by omega)
      have h2 := h.asc s (s + 1) (by omega) hs
      omega
  have hup : ∀ d s, s + d < n → col s + d ≤ col (s + d) := by
    intro d s
    induction d with
    | zero => intro _; exact Nat.le_refl _
    | succ d ih => intro hd; have := h.asc (s + d) (s + (d + 1)) (by omega) (by omega); have := ih (by omega); omega
  have hid : ∀ s, s < n → col s = s := by
    intro s hs
    have h1 := hge s hs
    have h3 := hup (n - 1 - s) s (by omega)
    have h4 := h.lt (n - 1) (by omega)
    have h5 := h.cw
    rw [show s + (n - 1 - s) = n - 1 by omega] at h3
    omega
  rw [← h.sg.2]
  exact det_congr fun r s hr hs => by unfold Pm_; rw [hid s hs]
/-- fewer pivots than rows: the determinant is zero -/
theorem Bar.det0 (h : Bar n n A A' col k n sn) (hk : k < n) : det n A = 0 := by
  -- row k of the reduced matrix is zero: a combination of rows of A' that is not trivial
  have hz : ∀ j, j < n → det k (Pm_ A' col) * A' k j = sm k (fun t => bt A' col k k t * A' t j) := by
    intro j hj
    have h1 := h.zero k j (Nat.le_refl k) hk hj
    rw [Rk_row (by omega)] at h1
    omega
  have h1 : det n (up A' k (fun j => det k (Pm_ A' col) * A' k j)) = det k (Pm_ A' col) * det n A' := (det_am n).scale hk A' _
  have h2 : det n (up A' k (fun j => det k (Pm_ A' col) * A' k j)) = det n (up A' k (fun j => sm k (fun t => bt A' col k k t * A' t j))) := det_congr fun r c hr hc => by
    by_cases e : r = k
    · subst e; rw [up_in, up_in]; exact hz c hc
    · rw [up_out e, up_out e]
  have h3 : det n (up A' k (fun j => sm k (fun t => bt A' col k k t * A' t j))) = sm k (fun t => bt A' col k k t * det n (up A' k (A' t))) := (det_am n).sum hk A' k (fun t => bt A' col k k t) (fun t => A' t)
  have h4 : sm k (fun t => bt A' col k k t * det n (up A' k (A' t))) = 0 := sm_zero fun t ht => by
    have : det n (up A' k (A' t)) = 0 := (det_am n).equal hk (show t < n by omega) (by omega) _ fun c _ => by rw [up_in, up_out (by omega)]
    rw [this, Int.mul_zero]
  rw [h2, h3, h4] at h1
  have h5 : det n A' = 0 := by
    rcases Int.mul_eq_zero.1 h1.symm with h6 | h6
    · exact absurd h6 h.d
    · exact h6
  obtain ⟨s1, s2⟩ := h.sg
  rw [h5] at s2
  rcases s1 with rfl | rfl <;> omega
end
end Dt
/- What the elimination tells: each column by the pivots' columns; solutions; vectors of the kernel. -/
namespace Dt

section
variable {n w : Nat} {A A' : Mx} {col : Nat → Nat} {k c : Nat} {sn : Int}
/-- every column is a combination of the pivots' columns -/
theorem Bar.span (h : Bar n w A A' col k c sn) {r j : Nat} (hr : r < n) (hj : j < c ∨ r < k) : det k (Pm_ A' col) * A' r j = sm k (fun s => A' r (col s) * Rk A' col k s j) := by
  by_cases hrk : r < k
  · have e : sm k (fun s => A' r (col s) * Rk A' col k s j) = sm k (fun s => sm k fun t => Pm_ A' col r s * adj k (Pm_ A' col) s t * A' t j) := sm_congr fun s hs => by
      rw [Rk_lt hs, ← sm_mul]
      exact sm_congr fun t _ => by unfold Pm_; grind
    rw [e, sm_swap]
    have e2 : sm k (fun t => sm k fun s => Pm_ A' col r s * adj k (Pm_ A' col) s t * A' t j) = sm k (fun t => if t = r then det k (Pm_ A' col) * A' t j else 0) := sm_congr fun t ht => by
      rw [sm_mul', mul_adj _ hrk ht]
      by_cases h1 : r = t
      · rw [if_pos h1, if_pos h1.symm]
      · rw [if_neg h1, if_neg (fun e => h1 e.symm), Int.zero_mul]
    rw [e2, sm_one (f := fun t => det k (Pm_ A' col) * A' t j) hrk]
  · have hjc : j < c := by omega
    have h1 := h.zero r j (by omega) hr hjc
    rw [Rk_ge hrk] at h1
    have e : sm k (fun s => A' r (col s) * Rk A' col k s j) = sm k (fun s => A' r (col s) * sm k (fun t => adj k (Pm_ A' col) s t * A' t j)) := sm_congr fun s hs => by rw [Rk_lt hs]
    rw [e]
    omega
/-- rows of A, rows of A' -/
theorem Bar.rows (h : Bar n w A A' col k c sn) {P : (Nat → Int) → Prop} (hP : ∀ r, r < n → P (A' r)) : ∀ r, r < n → P (A r) := by
  obtain ⟨x, xi, hx, hA⟩ := h.perm
  intro r hr
  have h1 := hx r hr
  have e : A' (xi r) = A r := by funext j; rw [hA _ j h1.2.1, h1.2.2.2]
  rw [← e]
  exact hP _ h1.2.1
/-- with as many pivots as columns, in the first n columns, the next column gives the solution -/
theorem Bar.solve {A' : Mx} (h : Bar n n A A' col n c sn) : ∀ r, r < n → sm n (fun j => A r j * Rk A' col n j n) = det n (Pm_ A' col) * A r n := by
  have hid : ∀ s, s < n → col s = s := by
    have hge : ∀ s, s < n → s ≤ col s := by
      intro s
      induction s with
      | zero => intro _; omega
      | succ s ih => intro hs; have h1 := ih (by omega); have h2 := h.asc s (s + 1) (by omega) hs; omega
    have hup : ∀ d s, s + d < n → col s + d ≤ col (s + d) := by
      intro d s
      induction d with
      | zero => intro _; exact Nat.le_refl _
      | succ d ih => intro hd; have := h.asc (s + d) (s + (d + 1)) (by omega) (by omega); have := ih (by omega); omega
    intro s hs
    have h1 := hge s hs
    have h3 := hup (n - 1 - s) s (by omega)
    have h4 := h.lt (n - 1) (by omega)
    have h5 := h.cw
    rw [show s + (n - 1 - s) = n - 1 by omega] at h3
    omega
  refine h.rows (P := fun row => sm n (fun j => row j * Rk A' col n j n) = det n (Pm_ A' col) * row n) fun r hr => ?_
  rw [h.span (j := n) hr (.inr hr)]
  exact sm_congr fun s hs => by rw [hid s hs]
/-- the vector of the kernel for a column fr that is no pivot -/
theorem Bar.kernel (h : Bar n w A A' col k w sn) {fr : Nat} (hfr : fr < w) (hno : ∀ s, s < k → col s ≠ fr) {v : Nat → Int} (h1 : v fr = det k (Pm_ A' col)) (hv : ∀ s, s < k → v (col s) = - Rk A' col k s fr) (h0 : ∀ j, j < w → j ≠ fr → (∀ s, s < k → col s ≠ j) → v j = 0) : ∀ r, r < n → sm w (fun j => A r j * v j) = 0 := by
  refine h.rows (P := fun row => sm w (fun j => row j * v j) = 0) fun r hr => ?_
  have hinj : ∀ s t, s < k → t < k → col s = col t → s = t := by
    intro s t hs ht e
    rcases Nat.lt_trichotomy s t with h5 | h5 | h5
    · have := h.asc s t h5 ht; omega
    · exact h5
    · have := h.asc t s h5 hs; omega
  have hsum : sm w (fun j => A' r j * v j) = sm w (fun j => (if j = fr then A' r fr * v fr else 0) + sm k fun s => if j = col s then A' r (col s) * v (col s) else 0) := by
    refine sm_congr fun j hj => ?_
    by_cases hjf : j = fr
    · subst hjf
      rw [if_pos rfl, sm_zero (fun s hs => if_neg (fun e => hno s hs e.symm))]; omega
    · rw [if_neg hjf]
      by_cases hp : ∃ s, s < k ∧ col s = j
      · obtain ⟨s, hs, rfl⟩ := hp
        have e : sm k (fun t => if col s = col t then A' r (col t) * v (col t) else 0) = sm k (fun t => if t = s then A' r (col s) * v (col s) else 0) := sm_congr fun t ht => by
          by_cases hts : t = s
          · subst hts; rw [if_pos rfl, if_pos rfl]
          · rw [if_neg (fun e => hts (hinj t s ht hs e.symm)), if_neg hts]
        rw [e, sm_one (f := fun _ => A' r (col s) * v (col s)) hs]; omega
      · rw [h0 j hj hjf (fun s hs e => hp ⟨s, hs, e⟩), sm_zero (fun s hs => if_neg (fun e => hp ⟨s, hs, e.symm⟩))]; simp
  have h2 := h.span (j := fr) hr (.inl hfr)
  rw [hsum, sm_add, sm_one (f := fun _ => A' r fr * v fr) hfr]
  have e3 : sm w (fun j => sm k fun s => if j = col s then A' r (col s) * v (col s) else 0) = sm k (fun s => A' r (col s) * v (col s)) := by
    rw [sm_swap]
    exact sm_congr fun s hs => sm_one (f := fun _ => A' r (col s) * v (col s)) (h.lt s hs)
  have e4 : sm k (fun s => A' r (col s) * v (col s)) = -1 * sm k (fun s => A' r (col s) * Rk A' col k s fr) := by
    rw [← sm_mul]
    exact sm_congr fun s hs => by rw [hv s hs]; grind
  rw [e3, e4, h1, ← h2]
  grind
/-- with a pivot in each column, only zero is mapped to zero -/
theorem Bar.only (h : Bar n w A A' col w w sn) {v : Nat → Int} (hv : ∀ r, r < n → sm w (fun j => A r j * v j) = 0) : ∀ j, j < w → v j = 0 := by
  have hid : ∀ s, s < w → col s = s := by
    have hge : ∀ s, s < w → s ≤ col s := by
      intro s
      induction s with
      | zero => intro _; omega
      | succ s ih => intro hs; have h1 := ih (by omega); have h2 := h.asc s (s + 1) (by omega) hs; omega
    have hup : ∀ d s, s + d < w → col s + d ≤ col (s + d) := by
      intro d s
      induction d with
      | zero => intro _; exact Nat.le_refl _
      | succ d ih => intro hd; have := h.asc (s + d) (s + (d + 1)) (by omega) (by omega); have := ih (by omega); omega
    intro s hs
    have h1 := hge s hs
    have h3 := hup (w - 1 - s) s (by omega)
    have h4 := h.lt (w - 1) (by omega)
    rw [show s + (w - 1 - s) = w - 1 by omega] at h3
    omega
  obtain ⟨x, xi, hx, hA⟩ := h.perm
  refine col_zero h.d fun r hr => ?_
  have hrn : r < n := by have := h.kn; omega
  rw [← hv (x r) (hx r hrn).1]
  exact sm_congr fun j hj => by unfold Pm_; rw [hid j hj, hA r j hrn]
end
end Dt
/- Bounds of determinants and of what Bareiss' elimination holds. -/
namespace Dt
def Bd (M x : Int) : Prop := -M ≤ x ∧ x ≤ M
theorem Bd.mono {M N x : Int} (h : Bd M x) (hMN : M ≤ N) : Bd N x := ⟨by have := h.1; omega, by have := h.2; omega⟩
theorem Bd.nn {M x : Int} (h : Bd M x) : 0 ≤ M := by have := h.1; have := h.2; omega
theorem Bd.add {M N x y : Int} (h : Bd M x) (h' : Bd N y) : Bd (M + N) (x + y) := ⟨by have := h.1; have := h'.1; omega, by have := h.2; have := h'.2; omega⟩
theorem Bd.sub {M N x y : Int} (h : Bd M x) (h' : Bd N y) : Bd (M + N) (x - y) := ⟨by have := h.1; have := h'.2; omega, by have := h.2; have := h'.1; omega⟩
theorem Bd.neg {M x : Int} (h : Bd M x) : Bd M (-x) := ⟨by have := h.2; omega, by have := h.1; omega⟩
theorem Bd.mul {M N x y : Int} (h : Bd M x) (h' : Bd N y) : Bd (M * N) (x * y) := by
  have hM := h.nn
  have hN := h'.nn
  obtain ⟨a1, a2⟩ := h
  obtain ⟨b1, b2⟩ := h'
  have k1 : 0 ≤ (M - x) * (N - y) := Int.mul_nonneg (by omega) (by omega)
  have k2 : 0 ≤ (M + x) * (N + y) := Int.mul_nonneg (by omega) (by omega)
  have k3 : 0 ≤ (M - x) * (N + y) := Int.mul_nonneg (by omega) (by omega)
  have k4 : 0 ≤ (M + x) * (N - y) := Int.mul_nonneg (by omega) (by omega)
  have e1 : (M - x) * (N - y) = M * N - M * y - x * N + x * y := by grind
  have e2 : (M + x) * (N + y) = M * N + M * y + x * N + x * y := by grind
  have e3 : (M - x) * (N + y) = M * N + M * y - x * N - x * y := by grind
  have e4 : (M + x) * (N - y) = M * N - M * y + x * N - x * y := by grind
  rw [e1] at k1
  rw [e2] at k2
  rw [e3] at k3
  rw [e4] at k4
  exact ⟨by omega, by omega⟩
theorem sm_bd {n : Nat} {M : Int} {f : Nat → Int} (hM : 0 ≤ M) (h : ∀ i, i < n → Bd M (f i)) : Bd (n * M) (sm n f) := by
  induction n with
  | zero => exact ⟨by simp [sm], by simp [sm]⟩
  | succ n ih =>
    have h1 := ih fun i hi => h i (by omega)
    have h2 := (h1.add (h n (by omega)))
    have e : ((n + 1 : Nat) : Int) * M = n * M + M := by rw [Int.natCast_add, Int.add_mul]; simp
    rw [e]; exact h2
theorem nat_le_mul {n K : Nat} {X : Int} (h : n ≤ K) (hX : 0 ≤ X) : (n : Int) * X ≤ K * X := Int.mul_le_mul_of_nonneg_right (by omega) hX
theorem pow_nn {X : Int} (h : 0 ≤ X) (n : Nat) : 0 ≤ X ^ n := Int.pow_nonneg h
theorem det_bd {K : Nat} {M : Int} (hM : 1 ≤ M) : ∀ {n : Nat} {A : Mx}, n ≤ K → (∀ i j, i < n → j < n → Bd M (A i j)) → Bd ((K * M) ^ n) (det n A)
  | 0, A, _, _ => by rw [Int.pow_zero]; exact ⟨by show (-1 : Int) ≤ 1; omega, Int.le_refl _⟩
  | n + 1, A, hn, h => by
    have hK : 0 ≤ (K : Int) * M := Int.mul_nonneg (by omega) (by omega)
    have hp := pow_nn hK n
    have hMp : 0 ≤ M * ((K * M) ^ n) := Int.mul_nonneg (by omega) hp
    have h1 : ∀ j, j < n + 1 → Bd (M * (K * M) ^ n) (sg j * A 0 j * det n (mn A j)) := by
      intro j hj
      have h2 : Bd M (sg j * A 0 j) := by
        have h3 := h 0 j (by omega) hj
        unfold sg
        split
        · rw [Int.one_mul]; exact h3
        · have : (-1 : Int) * A 0 j = - A 0 j := by omega
          rw [this]; exact h3.neg
      exact h2.mul (det_bd hM (by omega) fun i k hi hk => h _ _ (by omega) (sk_lt hj hk))
    have h2 := sm_bd (n := n + 1) hMp h1
    rw [det]
    refine h2.mono ?_
    have h3 := nat_le_mul hn hMp
    rw [Int.pow_succ]
    have e : (K * M) ^ n * (K * M) = K * (M * (K * M) ^ n) := by grind
    rw [e]; exact h3
theorem adj_bd {K : Nat} {M : Int} (hM : 1 ≤ M) {n : Nat} {A : Mx} (hn : n ≤ K) (h : ∀ i j, i < n → j < n → Bd M (A i j)) {i j : Nat} : Bd ((K * M) ^ n) (adj n A i j) := by
  unfold adj
  refine det_bd hM hn fun r c hr hc => ?_
  unfold up unit
  split
  · split
    · exact ⟨by omega, hM⟩
    · exact ⟨by omega, by omega⟩
  · exact h r c hr hc
theorem Rk_bd {K n w : Nat} {M : Int} {A : Mx} {col : Nat → Nat} {k i j : Nat} (hM : 1 ≤ M) (hK : 1 ≤ K) (hA : ∀ i j, i < n → j < w → Bd M (A i j)) (hk : k ≤ n) (hkK : k ≤ K) (hc : ∀ s, s < k → col s < w) (hi : i < n) (hj : j < w) : Bd (2 * (K * M) ^ (k + 2)) (Rk A col k i j) ∧ Bd (2 * (K * M) ^ (k + 2)) (det k (Pm_ A col)) := by
  have hKM : 1 ≤ (K : Int) * M := by
    have : (1 : Int) * 1 ≤ K * M := Int.mul_le_mul (by omega) hM (by omega) (by omega)
    omega
  have hp := pow_nn (show 0 ≤ (K : Int) * M by omega) k
  have hP : ∀ r s, r < k → s < k → Bd M (Pm_ A col r s) := fun r s hr hs => hA _ _ (by omega) (hc s hs)
  have hd := det_bd hM hkK hP
  have hadj : ∀ a b, Bd ((K * M) ^ k) (adj k (Pm_ A col) a b) := fun a b => adj_bd hM hkK hP
  have hsum : ∀ a, Bd ((K * M) ^ (k + 1)) (sm k fun t => adj k (Pm_ A col) a t * A t j) := by
    intro a
    have hpM : 0 ≤ (K * M) ^ k * M := Int.mul_nonneg hp (by omega)
    refine (sm_bd hpM fun t ht => (hadj a t).mul (hA t j (by omega) hj)).mono ?_
    have h3 := nat_le_mul hkK hpM
    have e : ((K : Int) * M) ^ (k + 1) = K * ((K * M) ^ k * M) := by rw [Int.pow_succ]; grind
    rw [e]; exact h3
  have g1 : ((K : Int) * M) ^ k ≤ (K * M) ^ (k + 1) := by
    rw [Int.pow_succ]
    have : (K * M) ^ k * 1 ≤ (K * M) ^ k * (K * M) := Int.mul_le_mul_of_nonneg_left hKM hp
    omega
  have g2 : ((K : Int) * M) ^ (k + 1) ≤ (K * M) ^ (k + 2) := by
    rw [Int.pow_succ _ (k + 1)]
    have : (K * M) ^ (k + 1) * 1 ≤ (K * M) ^ (k + 1) * (K * M) := Int.mul_le_mul_of_nonneg_left hKM (by omega)
    omega
  refine ⟨?_, hd.mono (by omega)⟩
  by_cases hik : i < k
  · rw [Rk_lt hik]; exact (hsum i).mono (by omega)
  · rw [Rk_ge hik]
    have h1 : Bd ((K * M) ^ k * M) (det k (Pm_ A col) * A i j) := hd.mul (hA i j hi hj)
    have hpM : 0 ≤ M * (K * M) ^ (k + 1) := Int.mul_nonneg (by omega) (by omega)
    have h2 : Bd (k * (M * (K * M) ^ (k + 1))) (sm k fun s => A i (col s) * sm k (fun t => adj k (Pm_ A col) s t * A t j)) := sm_bd hpM fun s hs => (hA i (col s) hi (hc s hs)).mul (hsum s)
    refine (h1.sub h2).mono ?_
    have h3 := nat_le_mul hkK hpM
    have e : ((K : Int) * M) ^ (k + 2) = K * (M * (K * M) ^ (k + 1)) := by rw [Int.pow_succ _ (k + 1)]; grind
    have h4 : (K * M) ^ k * M ≤ (K * M) ^ k * (K * M) := by
      refine Int.mul_le_mul_of_nonneg_left ?_ hp
      have : 1 * M ≤ K * M := Int.mul_le_mul_of_nonneg_right (by omega) (by omega)
      omega
    have e2 : ((K : Int) * M) ^ (k + 1) = (K * M) ^ k * (K * M) := Int.pow_succ _ _
    omega
end Dt
/- Lists of limbs of 32 bits: their values, and the machine's steps upon them. -/
namespace Lm
open Sx Go Vc

def B : Int := 4294967296
theorem B_eq : B = 4294967296 := rfl
theorem wc_u32 (x : Int) : wc .u32 x = x % B := by unfold wc B; rw [IntKind.wrap_u32]
theorem wc_u64 (x : Int) : wc .u64 x = x % 18446744073709551616 := by unfold wc; rw [IntKind.wrap_u64]
theorem wc_u64_in {x : Int} (h : 0 ≤ x ∧ x < 18446744073709551616) : wc .u64 x = x := by rw [wc_u64]; omega
theorem wc_u32_in {x : Int} (h : 0 ≤ x ∧ x < B) : wc .u32 x = x := by rw [wc_u32]; unfold B at *; omega
theorem wc_i64_in {x : Int} (h : -9223372036854775808 ≤ x ∧ x ≤ 9223372036854775807) : wc .i64 x = x := IntWalk.i64_in _ h
theorem wa_u64 {x y : Int} (h : 0 ≤ x + y ∧ x + y < 18446744073709551616) : wa .u64 x y = x + y := IntWalk.u64_in _ ⟨h.1, by omega⟩
theorem wm_u64 {x y : Int} (h : 0 ≤ x * y ∧ x * y < 18446744073709551616) : wm .u64 x y = x * y := IntWalk.u64_in _ ⟨h.1, by omega⟩
theorem ws_u64 (x y : Int) : ws .u64 x y = (x - y) % 18446744073709551616 := by unfold ws; rw [IntKind.wrap_u64]
theorem wa_u32 (x y : Int) : wa .u32 x y = (x + y) % B := by unfold wa B; rw [IntKind.wrap_u32]
theorem bv64 {x : Int} (h : 0 ≤ x ∧ x < 18446744073709551616) : (BitVec.ofInt 64 x).toNat = x.toNat := by
  rw [BitVec.toNat_ofInt]
  omega
theorem wand_low {x : Int} (h : 0 ≤ x ∧ x < 18446744073709551616) : wand .u64 x 4294967295 = x % B := by
  unfold wand
  have e : (BitVec.ofInt 64 x &&& BitVec.ofInt 64 4294967295).toNat = x.toNat % 4294967296 := by
    rw [BitVec.toNat_and, bv64 h, bv64 (by omega)]
    show x.toNat &&& 4294967295 = _
    exact Nat.and_two_pow_sub_one_eq_mod x.toNat 32
  show IntKind.u64.wrap ((BitVec.ofInt 64 x &&& BitVec.ofInt 64 4294967295).toNat : Int) = _
  rw [e, IntWalk.u64_in _ (by omega)]
  unfold B
  omega
theorem wand_one {x : Int} (h : 0 ≤ x ∧ x < 18446744073709551616) : wand .u64 x 1 = x % 2 := by
  unfold wand
  have e : (BitVec.ofInt 64 x &&& BitVec.ofInt 64 1).toNat = x.toNat % 2 := by
    rw [BitVec.toNat_and, bv64 h, bv64 (by omega)]
    exact Nat.and_two_pow_sub_one_eq_mod x.toNat 1
  show IntKind.u64.wrap ((BitVec.ofInt 64 x &&& BitVec.ofInt 64 1).toNat : Int) = _
  rw [e, IntWalk.u64_in _ (by omega)]
  omega
theorem wsrc32 {x : Int} (h : 0 ≤ x) : wsrc .u64 x 32 = x / B := by
  unfold wsrc B
  show x.fdiv (2 ^ 32) = _
  rw [Int.fdiv_eq_ediv_of_nonneg _ (by omega)]
  rfl
theorem wsrc63 {x : Int} (h : 0 ≤ x) : wsrc .u64 x 63 = x / 9223372036854775808 := by
  unfold wsrc
  show x.fdiv (2 ^ 63) = _
  rw [Int.fdiv_eq_ediv_of_nonneg _ (by omega)]
  rfl
theorem wslc32 {x : Int} (h : 0 ≤ x ∧ x < B) : wslc .u64 x 32 = x * B := by
  unfold wslc B at *
  show IntKind.u64.wrap (x * 2 ^ 32) = _
  rw [IntWalk.u64_in _ (by omega)]
  omega
theorem wor_hi {x y : Int} (hx : 0 ≤ x ∧ x < B) (hy : 0 ≤ y ∧ y < B) : wor .u64 (x * B) y = x * B + y := by
  unfold B at *
  unfold wor
  have e : (BitVec.ofInt 64 (x * 4294967296) ||| BitVec.ofInt 64 y).toNat = x.toNat * 4294967296 + y.toNat := by
    rw [BitVec.toNat_or, bv64 (by omega), bv64 (by omega)]
    have e1 : (x * 4294967296).toNat = 2 ^ 32 * x.toNat := by omega
    rw [e1, ← Nat.two_pow_add_eq_or_of_lt (by omega)]
    omega
  show IntKind.u64.wrap ((BitVec.ofInt 64 (x * 4294967296) ||| BitVec.ofInt 64 y).toNat : Int) = _
  rw [e, IntWalk.u64_in _ (by omega)]
  omega

/-- limbs -/
def LW (l : List Int) : Prop := ∀ x, x ∈ l → 0 ≤ x ∧ x < B
def lv : List Int → Int
  | [] => 0
  | x :: l => x + B * lv l
def pw : Nat → Int
  | 0 => 1
  | n + 1 => B * pw n
theorem pw_pos : ∀ n, 0 < pw n
  | 0 => by simp [pw]
  | n + 1 => by have := pw_pos n; unfold pw B; omega
theorem pw_add (m : Nat) : ∀ n, pw (m + n) = pw m * pw n
  | 0 => by simp [pw]
  | n + 1 => by
    have := pw_add m n
    simp only [pw, Nat.add_eq]
    rw [this]
    grind
theorem lv_nn : ∀ {l : List Int}, LW l → 0 ≤ lv l
  | [], _ => by simp [lv]
  | x :: l, h => by
    have h1 := lv_nn (l := l) (fun y hy => h y (by simp [hy]))
    have h2 := h x (by simp)
    unfold lv B
    omega
theorem lv_lt : ∀ {l : List Int}, LW l → lv l < pw l.length
  | [], _ => by simp [lv, pw]
  | x :: l, h => by
    have h1 := lv_lt (l := l) (fun y hy => h y (by simp [hy]))
    have h2 := h x (by simp)
    simp only [lv, List.length_cons, pw]
    unfold B at *
    omega
theorem lv_app : ∀ (a b : List Int), lv (a ++ b) = lv a + pw a.length * lv b
  | [], b => by simp [lv, pw]
  | x :: a, b => by
    have := lv_app a b
    simp only [List.cons_append, lv, List.length_cons, pw, this]
    grind
theorem lv_zeros : ∀ n, lv (List.replicate n 0) = 0
  | 0 => rfl
  | n + 1 => by simp [List.replicate_succ, lv, lv_zeros n]
theorem LW.tail {x : Int} {l : List Int} (h : LW (x :: l)) : LW l := fun y hy => h y (by simp [hy])
theorem LW.app {a b : List Int} : LW (a ++ b) ↔ LW a ∧ LW b := by
  unfold LW
  constructor
  · intro h; exact ⟨fun x hx => h x (by simp [hx]), fun x hx => h x (by simp [hx])⟩
  · rintro ⟨h1, h2⟩ x hx
    rcases List.mem_append.1 hx with hx | hx
    · exact h1 x hx
    · exact h2 x hx
theorem LW.one {x : Int} : LW [x] ↔ 0 ≤ x ∧ x < B := by simp [LW]
/-- the last limb is not zero -/
def Tm (l : List Int) : Prop := ∀ x, l.getLast? = some x → x ≠ 0
theorem tm_nil : Tm [] := by simp [Tm]
theorem tm_snoc {l : List Int} {x : Int} (h : x ≠ 0) : Tm (l ++ [x]) := by simp [Tm, h]
theorem tm_lower : ∀ {l : List Int}, LW l → Tm l → l ≠ [] → pw (l.length - 1) ≤ lv l := by
  intro l h ht hne
  obtain ⟨m, x, rfl⟩ : ∃ m x, l = m ++ [x] := ⟨l.dropLast, l.getLast hne, (List.dropLast_concat_getLast hne).symm⟩
  have hx := ht x (by simp)
  obtain ⟨h1, h2⟩ := LW.app.1 h
  have h3 := lv_nn h1
  have h4 := LW.one.1 h2
  rw [lv_app]
  simp only [List.length_append, List.length_singleton, Nat.add_sub_cancel, lv]
  have h5 := pw_pos m.length
  have : pw m.length * 1 ≤ pw m.length * x := Int.mul_le_mul_of_nonneg_left (by omega) (by omega)
  simp at this ⊢
  omega
theorem pw_mono {m n : Nat} (h : m ≤ n) : pw m ≤ pw n := by
  obtain ⟨k, rfl⟩ : ∃ k, n = m + k := ⟨n - m, by omega⟩
  rw [pw_add]
  have h1 := pw_pos m
  have h2 := pw_pos k
  have : pw m * 1 ≤ pw m * pw k := Int.mul_le_mul_of_nonneg_left (by omega) (by omega)
  omega
theorem tm_len {a b : List Int} (ha : LW a) (hb : LW b) (ta : Tm a) (tb : Tm b) (h : a.length < b.length) : lv a < lv b := by
  have h1 := lv_lt ha
  have h2 := tm_lower hb tb (by rintro rfl; simp at h)
  have h3 := pw_mono (m := a.length) (n := b.length - 1) (by omega)
  omega
theorem lv_inj : ∀ {a b : List Int}, LW a → LW b → a.length = b.length → lv a = lv b → a = b
  | [], [], _, _, _, _ => rfl
  | [], _ :: _, _, _, h, _ => by simp at h
  | _ :: _, [], _, _, h, _ => by simp at h
  | x :: a, y :: b, ha, hb, hl, he => by
    have hx := ha x (by simp)
    have hy := hb y (by simp)
    simp only [lv] at he
    unfold B at *
    have e1 : x = y := by omega
    subst e1
    have e2 : lv a = lv b := by omega
    rw [lv_inj ha.tail hb.tail (by simpa using hl) e2]
/-- trimmed lists with the same value are the same -/
theorem tm_inj {a b : List Int} (ha : LW a) (hb : LW b) (ta : Tm a) (tb : Tm b) (he : lv a = lv b) : a = b := by
  have h1 : ¬ a.length < b.length := fun h => by have := tm_len ha hb ta tb h; omega
  have h2 : ¬ b.length < a.length := fun h => by have := tm_len hb ha tb ta h; omega
  exact lv_inj ha hb (by omega) he
theorem lv_zero {a : List Int} (ha : LW a) (ta : Tm a) : lv a = 0 ↔ a = [] := by
  constructor
  · intro h
    exact tm_inj ha (by intro x hx; simp at hx) ta tm_nil h
  · rintro rfl; rfl
/-- the list without its zeros at the end -/
def trimL : List Int → List Int
  | [] => []
  | x :: l => match trimL l with
    | [] => if x = 0 then [] else [x]
    | m => x :: m
theorem trimL_lv : ∀ l : List Int, lv (trimL l) = lv l
  | [] => rfl
  | x :: l => by
    have ih := trimL_lv l
    unfold trimL
    cases h : trimL l with
    | nil =>
      rw [h] at ih
      simp only [lv] at ih
      simp only
      by_cases hx : x = 0
      · rw [if_pos hx]; simp only [lv, ← ih, hx]; rfl
      · rw [if_neg hx]; simp only [lv, ← ih]
    | cons y m =>
      rw [h] at ih
      simp only [lv] at ih ⊢
      rw [ih]
theorem trimL_lw : ∀ {l : List Int}, LW l → LW (trimL l)
  | [], h => h
  | x :: l, h => by
    have ih := trimL_lw h.tail
    unfold trimL
    cases e : trimL l with
    | nil =>
      simp only
      split
      · intro y hy; simp at hy
      · exact LW.one.2 (h x (by simp))
    | cons y m =>
      rw [e] at ih
      simp only
      intro z hz
      rcases List.mem_cons.1 hz with rfl | hz
      · exact h z (by simp)
      · exact ih z hz
theorem trimL_tm : ∀ l : List Int, Tm (trimL l)
  | [] => tm_nil
  | x :: l => by
    have ih := trimL_tm l
    unfold trimL
    cases e : trimL l with
    | nil =>
      simp only
      split
      · exact tm_nil
      · rename_i h; intro y hy; simp at hy; omega
    | cons y m =>
      rw [e] at ih
      simp only
      intro z hz
      refine ih z ?_
      rw [← hz, List.getLast?_cons_cons]
theorem trimL_of {l : List Int} (hl : LW l) (ht : Tm l) : trimL l = l := tm_inj (trimL_lw hl) hl (trimL_tm l) ht (trimL_lv l)
/-- digits of a number -/
theorem tm_ext {a : List Int} {b : List Int} (ha : LW a) (hb : LW b) (ta : Tm a) (h : lv a = lv b) : a = trimL b :=
  tm_inj ha (trimL_lw hb) ta (trimL_tm b) (by rw [trimL_lv, h])
end Lm
/- The bounds of Knuth's algorithm D, in numbers. -/
namespace Lm

/-- q is the quotient of u by v -/
def Qt (u v q : Int) : Prop := q * v ≤ u ∧ u < (q + 1) * v
theorem Qt.le_of {u v q x : Int} (h : Qt u v q) (hv : 0 < v) (hx : x * v ≤ u) : x ≤ q := by
  refine Classical.byContradiction fun hno => ?_
  have h1 : (q + 1) * v ≤ x * v := Int.mul_le_mul_of_nonneg_right (by omega) (by omega)
  have := h.2
  omega
theorem Qt.lt_of {u v q x : Int} (h : Qt u v q) (hv : 0 < v) (hx : u < x * v) : q < x := by
  refine Classical.byContradiction fun hno => ?_
  have h1 : x * v ≤ q * v := Int.mul_le_mul_of_nonneg_right (by omega) (by omega)
  have := h.1
  omega
theorem Qt.nn {u v q : Int} (h : Qt u v q) (hv : 0 < v) (hu : 0 ≤ u) : 0 ≤ q := h.le_of hv (by omega)
theorem Qt.uniq {u v q q' : Int} (h : Qt u v q) (h' : Qt u v q') (hv : 0 < v) : q = q' := Int.le_antisymm (h'.le_of hv h.1) (h.le_of hv h'.1)
theorem Qt.ediv {u v : Int} (hv : 0 < v) : Qt u v (u / v) := ⟨Int.ediv_mul_le u (by omega), by rw [Int.add_mul, Int.one_mul]; exact Int.lt_ediv_add_one_mul_self u hv |> fun h => by rw [Int.add_mul, Int.one_mul] at h; exact h⟩
theorem Qt.eq {u v q : Int} (h : Qt u v q) (hv : 0 < v) : q = u / v := h.uniq (Qt.ediv hv) hv
/-- the guess from the first digits is not too small -/
theorem guess_ge {u v q top vt P ur vr : Int} (h : Qt u v q) (hP : 0 < P) (hu : u = top * P + ur) (hur : ur < P) (hv : v = vt * P + vr) (hvr : 0 ≤ vr) (hvt : 0 < vt) (hq : 0 ≤ q) : q * vt ≤ top := by
  refine Classical.byContradiction fun hno => ?_
  have h1 : (top + 1) * P ≤ q * vt * P := Int.mul_le_mul_of_nonneg_right (by omega) (by omega)
  have h2 : 0 ≤ q * vr := Int.mul_nonneg hq hvr
  have h3 := h.1
  have e1 : q * v = q * vt * P + q * vr := by rw [hv]; grind
  have e2 : (top + 1) * P = top * P + P := by grind
  omega
/-- a guess that passes the test with the second digits is at most one too great -/
theorem guess_le {u v q g t3 v2 S us vs : Int} (h : Qt u v q) (hS : 0 < S) (hu : u = t3 * S + us) (hus : 0 ≤ us) (hv : v = v2 * S + vs) (hvs : vs < S) (hvs0 : 0 ≤ vs) (hg : g * v2 ≤ t3) (hg0 : 0 ≤ g) (hgB : g * S ≤ v) (hv0 : 0 < v) : g ≤ q + 1 := by
  have h1 : g * v2 * S ≤ t3 * S := Int.mul_le_mul_of_nonneg_right hg (by omega)
  have h2 : g * vs ≤ g * S := Int.mul_le_mul_of_nonneg_left (by omega) hg0
  have e1 : g * v = g * v2 * S + g * vs := by rw [hv]; grind
  refine Classical.byContradiction fun hno => ?_
  have h3 : (q + 2) * v ≤ g * v := Int.mul_le_mul_of_nonneg_right (by omega) (by omega)
  have e2 : (q + 2) * v = (q + 1) * v + v := by grind
  have h4 := h.2
  omega
/-- a guess that fails it is too great -/
theorem guess_gt {u v q g t3 v2 S us vs : Int} (h : Qt u v q) (hS : 0 < S) (hu : u = t3 * S + us) (hus : us < S) (hv : v = v2 * S + vs) (hvs0 : 0 ≤ vs) (hg : t3 < g * v2) (hg0 : 0 ≤ g) (hv0 : 0 < v) : q < g := by
  refine h.lt_of hv0 ?_
  have h1 : (t3 + 1) * S ≤ g * v2 * S := Int.mul_le_mul_of_nonneg_right (by omega) (by omega)
  have h2 : 0 ≤ g * vs := Int.mul_nonneg hg0 hvs0
  have e1 : g * v = g * v2 * S + g * vs := by rw [hv]; grind
  have e2 : (t3 + 1) * S = t3 * S + S := by grind
  omega
end Lm
/- The program's limbs: trimming, numbers from machine integers, short division, comparison. -/
namespace Km
open Sx Go M Vc Lm
theorem lv_snoc (l : List Int) (x : Int) : lv (l ++ [x]) = lv l + pw l.length * x := by
  rw [lv_app]; simp [lv]
theorem LW.take {l : List Int} (h : LW l) (k : Nat) : LW (l.take k) := fun x hx => h x (List.mem_of_mem_take hx)
theorem LW.get {l : List Int} (h : LW l) {k : Nat} {x : Int} (hx : l[k]? = some x) : 0 ≤ x ∧ x < B := h x (mem_get hx)
theorem trim_ok {l : List Int} (hl : LW l) (hn : l.length ≤ 1000000) : integer_trim l = some (trimL l) := by
  refine Ret.eq ?_
  unfold integer_trim
  rw [ret_bind]
  refine (ret_loop (Post := fun i => ∃ k : Nat, i = (k : Int) ∧ k ≤ l.length ∧ lv (l.take k) = lv l ∧ Tm (l.take k)) l.length (fun m (i : Int) => i = ((l.length - m : Nat) : Int) ∧ m ≤ l.length ∧ lv (l.take (l.length - m)) = lv l) ⟨by rw [Nat.sub_zero], by omega, by rw [Nat.sub_zero, List.take_length]⟩ ?_ (by omega)).mono ?_
  · rintro m _ hm ⟨rfl, h1, h2⟩
    unfold integer_trim_l3
    rw [ret_bind, ret_if]
    refine ⟨fun hlt => ?_, fun hge => ?_⟩
    · have e1 : ws .i64 ((l.length - m : Nat) : Int) 1 = ((l.length - (m + 1) : Nat) : Int) := by rw [ws_i (by omega) (by omega)]; omega
      rw [e1, ret_bind, ret_get]
      refine ⟨by omega, by omega, fun x hx => ?_⟩
      rw [Int.toNat_natCast] at hx
      have ht : l.take (l.length - m) = l.take (l.length - (m + 1)) ++ [x] := by
        rw [show l.length - m = l.length - (m + 1) + 1 by omega]; exact tks hx
      rw [ret_some, ret_if]
      refine ⟨fun hz => ?_, fun hz => ?_⟩
      · have hz : x = 0 := by simpa using hz
        refine ⟨_, rfl, by omega, rfl, by omega, ?_⟩
        rw [← h2, ht, lv_snoc, hz]; simp
      · have hz : x ≠ 0 := by simpa using hz
        exact ⟨_, rfl, l.length - m, rfl, by omega, h2, by rw [ht]; exact tm_snoc hz⟩
    · rw [ret_some, if_neg (by simp)]
      have e : l.length - m = 0 := by omega
      exact ⟨_, rfl, 0, by rw [e], by omega, by rw [← h2, e], by simp [Tm]⟩
  · rintro _ ⟨k, rfl, h1, h2, h3⟩
    rw [ret_bind, ret_sli]
    refine ⟨by omega, by omega, by omega, _, rfl, ?_⟩
    rw [Int.toNat_natCast, show (0 : Int).toNat = 0 from rfl, List.drop_zero]
    exact tm_ext (LW.take hl k) hl h3 h2
theorem big_ok {l : List Int} (s : Bool) (hl : LW l) (hn : l.length ≤ 1000000) : integer_big s l = some (if trimL l = [] then (false, []) else (s, trimL l)) := by
  unfold integer_big
  rw [trim_ok hl hn, obs]
  by_cases h : trimL l = []
  · rw [if_pos (by rw [h]; rfl), if_pos h]
  · rw [if_neg (by simpa using h), if_neg h]
/-- a number from 1 to B - 1 is one limb -/
theorem from_ok {p : Int} (hp : 0 < p) (hB : p < B) : integer_FromInt p = some (false, [p]) := by
  unfold B at hB
  unfold integer_FromInt integer_FromInt_j1
  rw [if_neg (by omega), wc_u64_in ⟨by omega, by omega⟩, wand_low ⟨by omega, by omega⟩, wsrc32 (by omega)]
  have e1 : p % B = p := Int.emod_eq_of_lt (by omega) (by unfold B; omega)
  have e2 : p / B = 0 := Int.ediv_eq_zero_of_lt (by omega) (by unfold B; omega)
  rw [e1, e2, wc_u32_in ⟨by omega, by unfold B; omega⟩, wc_u32_in ⟨by omega, by unfold B; omega⟩]
  have hl : LW [p, 0] := by
    intro x hx
    simp at hx
    unfold B
    omega
  have ht : trimL [p, 0] = [p] := by
    simp [trimL]
    omega
  rw [big_ok _ hl (by simp), ht, obs, if_neg (by simp)]
  simp
  omega
/-- short division -/
theorem short_ok {a : List Int} {d : Int} (ha : LW a) (hn : a.length ≤ 1000) (hd : 0 < d) (hB : d < B) : ∃ q, integer_short a d = some (q, lv a % d) ∧ LW q ∧ Tm q ∧ lv q = lv a / d := by
  have key : Ret (integer_short a d) (fun r => LW r.1 ∧ Tm r.1 ∧ lv r.1 = lv a / d ∧ r.2 = lv a % d) := by
    unfold B at hB
    unfold integer_short
    rw [ret_bind, ret_mkL]
    refine ⟨by omega, by omega, ?_⟩
    rw [Int.toNat_natCast, ret_bind]
    have hcd : wc .u64 d = d := wc_u64_in ⟨by omega, by omega⟩
    refine (ret_loop (Post := fun s : List Int × Int => LW s.1 ∧ s.1.length = a.length ∧ (0 ≤ s.2 ∧ s.2 < d) ∧ lv a = lv s.1 * d + s.2) a.length (fun m (s : List Int × Int × Int) => s.2.2 = (a.length : Int) - 1 - m ∧ m ≤ a.length ∧ LW s.1 ∧ s.1.length = a.length ∧ (0 ≤ s.2.1 ∧ s.2.1 < d) ∧ lv (a.drop (a.length - m)) = lv (s.1.drop (a.length - m)) * d + s.2.1) ⟨by show ws .i64 (a.length : Int) 1 = _; rw [ws_i (by omega) (by omega)]; simp, by omega, fun x hx => by rw [List.mem_replicate] at hx; rw [hx.2]; unfold B; omega, List.length_replicate .., ⟨by show (0 : Int) ≤ 0; omega, hd⟩, by rw [Nat.sub_zero, List.drop_length, List.drop_of_length_le (by simp)]; simp [lv]⟩ ?_ (by omega)).mono ?_
    · rintro m ⟨q, r, _⟩ hm ⟨h1, h2, h3, h4, h5, h6⟩
      simp only at h1 h3 h4 h5 h6
      subst h1
      unfold integer_short_l1
      simp only
      rw [ret_if]
      refine ⟨fun hge => ?_, fun hlt => ⟨_, rfl, h3, h4, h5, ?_⟩⟩
      · obtain ⟨i, hi⟩ : ∃ i : Nat, a.length = i + (m + 1) := ⟨a.length - (m + 1), by omega⟩
        have ei : (a.length : Int) - 1 - (m : Int) = (i : Int) := by omega
        rw [ei, ret_bind, ret_get]
        refine ⟨by omega, by omega, fun x hx => ?_⟩
        rw [Int.toNat_natCast] at hx
        have hxB := LW.get ha hx
        have hr2 : 0 ≤ r ∧ r < B := ⟨h5.1, by unfold B; omega⟩
        have ht : wor .u64 (wslc .u64 r 32) (wc .u64 x) = r * B + x := by
          rw [wslc32 hr2, wc_u64_in ⟨hxB.1, by unfold B at hxB; omega⟩, wor_hi hr2 hxB]
        rw [ht, hcd]
        have hr3 : r + 1 ≤ d := by omega
        have hmul : (r + 1) * B ≤ d * B := Int.mul_le_mul_of_nonneg_right hr3 (by unfold B; omega)
        have hrB : 0 ≤ r * B := Int.mul_nonneg h5.1 (by unfold B; omega)
        rw [Int.add_mul, Int.one_mul] at hmul
        have htn : 0 ≤ r * B + x := by omega
        have hq0 : 0 ≤ (r * B + x) / d := Int.ediv_nonneg htn (by omega)
        have hqB : (r * B + x) / d < B := Int.ediv_lt_of_lt_mul hd (by rw [Int.mul_comm B d]; omega)
        have hrem : 0 ≤ (r * B + x) % d ∧ (r * B + x) % d < d := ⟨Int.emod_nonneg _ (by omega), Int.emod_lt_of_pos _ hd⟩
        have hwq : wq .u64 (r * B + x) d = some ((r * B + x) / d) := by
          unfold wq
          rw [if_neg (by omega), Int.tdiv_eq_ediv_of_nonneg htn, IntWalk.u64_in _ ⟨hq0, by have e : B = 4294967296 := rfl; omega⟩]
        have hwr : wr (r * B + x) d = some ((r * B + x) % d) := by
          unfold wr
          rw [if_neg (by omega), Int.tmod_eq_emod_of_nonneg htn]
        rw [hwq, obs, ret_bind, ret_set]
        refine ⟨by omega, by omega, ?_⟩
        rw [hwr, obs, Int.toNat_natCast, wc_u32_in ⟨hq0, hqB⟩]
        refine ⟨_, rfl, by omega, ?_⟩
        simp only
        refine ⟨by rw [ws_i (by omega) (by omega)]; omega, by omega, ?_, by rw [List.length_set]; exact h4, hrem, ?_⟩
        · intro y hy
          rcases List.mem_or_eq_of_mem_set hy with hy | rfl
          · exact h3 y hy
          · exact ⟨hq0, hqB⟩
        · have e1 : a.length - (m + 1) = i := by omega
          have e2 : a.length - m = i + 1 := by omega
          rw [e2] at h6
          rw [e1]
          have ea : a.drop i = x :: a.drop (i + 1) := by
            obtain ⟨hlt, he⟩ := List.getElem?_eq_some_iff.1 hx
            rw [← he]; exact List.drop_eq_getElem_cons hlt
          have eq : (q.set i ((r * B + x) / d)).drop i = ((r * B + x) / d) :: q.drop (i + 1) := by
            have hlt : i < (q.set i ((r * B + x) / d)).length := by rw [List.length_set]; omega
            rw [List.drop_eq_getElem_cons hlt, List.getElem_set_self, List.drop_set_of_lt (by omega)]
          rw [ea, eq]
          simp only [lv]
          rw [h6]
          have h7 := Int.mul_ediv_add_emod (r * B + x) d
          have e9 : ((r * B + x) / d + B * lv (q.drop (i + 1))) * d = d * ((r * B + x) / d) + B * (lv (q.drop (i + 1)) * d) := by grind
          rw [e9]
          have e10 : B * (lv (q.drop (i + 1)) * d + r) = B * (lv (q.drop (i + 1)) * d) + r * B := by grind
          rw [e10]
          omega
      · have e : a.length - m = 0 := by omega
        rw [e, List.drop_zero, List.drop_zero] at h6
        exact h6
    · rintro ⟨q, r⟩ ⟨h1, h2, h3, h4⟩
      simp only at h1 h2 h3 h4 ⊢
      rw [trim_ok h1 (by omega), obs]
      refine ⟨_, rfl, trimL_lw h1, trimL_tm q, ?_, ?_⟩
      · show lv (trimL q) = _
        rw [trimL_lv, h4, Int.add_comm, Int.add_mul_ediv_right _ _ (by omega), Int.ediv_eq_zero_of_lt h3.1 h3.2, Int.zero_add]
      · show wc .u32 r = _
        rw [wc_u32_in ⟨h3.1, by unfold B; omega⟩, h4, Int.add_comm, Int.add_mul_emod_self_right, Int.emod_eq_of_lt h3.1 h3.2]
  obtain ⟨⟨q, r⟩, h0, h1, h2, h3, h4⟩ := key
  simp only at h1 h2 h3 h4
  exact ⟨q, by rw [h0, h4], h1, h2, h3⟩
end Km
/- The program's limbs: comparison, sum, difference; remainders by one limb. -/
namespace Km
open Sx Go M Vc Lm
theorem cmpInt_ok (x y : Int) : cmp_Compare_int x y = some (if x < y then -1 else if y < x then 1 else 0) := by
  unfold cmp_Compare_int cmp_isNaN_int
  simp only [decide_true, Bool.not_true, obs, if_false, Bool.false_eq_true]
  split
  · rfl
  · split <;> rfl
theorem cmpU_ok (x y : Int) : cmp_Compare_uint32 x y = some (if x < y then -1 else if y < x then 1 else 0) := by
  unfold cmp_Compare_uint32 cmp_isNaN_uint32
  simp only [decide_true, Bool.not_true, obs, if_false, Bool.false_eq_true]
  split
  · rfl
  · split <;> rfl
theorem split_at {a : List Int} {i : Nat} {x : Int} (hx : a[i]? = some x) : lv a = lv (a.take i) + pw i * (x + B * lv (a.drop (i + 1))) := by
  obtain ⟨hlt, he⟩ := List.getElem?_eq_some_iff.1 hx
  have e : a = a.take i ++ (x :: a.drop (i + 1)) := by
    rw [← he, ← List.drop_eq_getElem_cons hlt, List.take_append_drop]
  have e2 : lv a = lv (a.take i ++ (x :: a.drop (i + 1))) := congrArg lv e
  rw [e2, lv_app]
  simp only [lv, List.length_take]
  rw [Nat.min_eq_left (by omega)]
theorem take_lt {a : List Int} (ha : LW a) {i : Nat} (hi : i ≤ a.length) : 0 ≤ lv (a.take i) ∧ lv (a.take i) < pw i := by
  have h1 := lv_lt (LW.take ha i)
  rw [List.length_take, Nat.min_eq_left hi] at h1
  exact ⟨lv_nn (LW.take ha i), h1⟩
theorem lex_lt {a b : List Int} (ha : LW a) (hb : LW b) {i : Nat} {x y : Int} (hx : a[i]? = some x) (hy : b[i]? = some y) (he : a.drop (i + 1) = b.drop (i + 1)) (h : x < y) : lv a < lv b := by
  have h1 := (List.getElem?_eq_some_iff.1 hx).1
  have h2 := (List.getElem?_eq_some_iff.1 hy).1
  rw [split_at hx, split_at hy, he]
  have t1 := take_lt ha (i := i) (by omega)
  have t2 := take_lt hb (i := i) (by omega)
  have hp := pw_pos i
  have e1 : pw i * (y + B * lv (b.drop (i + 1))) = pw i * (x + B * lv (b.drop (i + 1))) + pw i * (y - x) := by grind
  have e2 : pw i * 1 ≤ pw i * (y - x) := Int.mul_le_mul_of_nonneg_left (by omega) (by omega)
  rw [e1]
  omega
theorem compare_ok {a b : List Int} (ha : LW a) (hb : LW b) (ta : Tm a) (tb : Tm b) (hn : a.length ≤ 1000) (hm : b.length ≤ 1000) : integer_compare a b = some (if lv a < lv b then -1 else if lv b < lv a then 1 else 0) := by
  refine Ret.eq ?_
  unfold integer_compare
  rw [ret_if]
  refine ⟨fun hl => ?_, fun hl => ?_⟩
  · have hl : a.length = b.length := by omega
    rw [ret_bind]
    refine (ret_loop (Post := fun o => (o = .inl () ∧ a = b) ∨ ∃ c, o = .inr c ∧ c = (if lv a < lv b then -1 else if lv b < lv a then 1 else 0)) a.length (fun m (i : Int) => i = (a.length : Int) - 1 - m ∧ m ≤ a.length ∧ a.drop (a.length - m) = b.drop (a.length - m)) ⟨by rw [ws_i (by omega) (by omega)]; omega, by omega, by rw [Nat.sub_zero, List.drop_length, List.drop_of_length_le (by omega)]⟩ ?_ (by omega)).mono ?_
    · rintro m i hm' ⟨rfl, h1, h2⟩
      unfold integer_compare_l1
      rw [ret_if]
      refine ⟨fun hge => ?_, fun hlt => ⟨_, rfl, .inl ⟨rfl, by have e : a.length - m = 0 := (by omega); rwa [e, List.drop_zero, List.drop_zero] at h2⟩⟩⟩
      obtain ⟨j, hj⟩ : ∃ j : Nat, a.length = j + (m + 1) := ⟨a.length - (m + 1), by omega⟩
      have ej : (a.length : Int) - 1 - (m : Int) = (j : Int) := by omega
      have e2 : a.length - m = j + 1 := by omega
      rw [e2] at h2
      rw [ej, ret_bind, ret_get]
      refine ⟨by omega, by omega, fun x hx => ?_⟩
      rw [ret_bind, ret_get]
      refine ⟨by omega, by omega, fun y hy => ?_⟩
      rw [Int.toNat_natCast] at hx hy
      rw [ret_if]
      refine ⟨fun he => ⟨_, rfl, by omega, by rw [ws_i (by omega) (by omega)]; omega, by omega, ?_⟩, fun hne => ?_⟩
      · subst he
        obtain ⟨k1, k2⟩ := List.getElem?_eq_some_iff.1 hx
        obtain ⟨k3, k4⟩ := List.getElem?_eq_some_iff.1 hy
        rw [show a.length - (m + 1) = j by omega, List.drop_eq_getElem_cons k1, List.drop_eq_getElem_cons k3, k2, k4, h2]
      · rw [ret_bind, ret_get]
        refine ⟨by omega, by omega, fun x' hx' => ?_⟩
        rw [Int.toNat_natCast, hx] at hx'
        obtain rfl := Option.some.inj hx'
        rw [ret_bind, ret_get]
        refine ⟨by omega, by omega, fun y' hy' => ?_⟩
        rw [Int.toNat_natCast, hy] at hy'
        obtain rfl := Option.some.inj hy'
        rw [cmpU_ok, obs]
        refine ⟨_, rfl, .inr ⟨_, rfl, ?_⟩⟩
        rcases Int.lt_or_gt_of_ne hne with h | h
        · rw [if_pos h, if_pos (lex_lt ha hb hx hy h2 h)]
        · have := lex_lt hb ha hy hx h2.symm h
          rw [if_neg (by omega), if_pos h, if_neg (by omega), if_pos this]
    · rintro _ (⟨rfl, h⟩ | ⟨c, rfl, h⟩)
      · refine ⟨_, rfl, ?_⟩
        rw [h, if_neg (by omega), if_neg (by omega)]
      · exact ⟨_, rfl, h⟩
  · rw [cmpInt_ok, obs]
    refine ⟨_, rfl, ?_⟩
    rcases Nat.lt_or_ge a.length b.length with h | h
    · rw [if_pos (by omega), if_pos (tm_len ha hb ta tb h)]
    · have := tm_len hb ha tb ta (show b.length < a.length by omega)
      rw [if_neg (by omega), if_pos (by omega), if_neg (by omega), if_pos this]
theorem take_succ {a : List Int} {i : Nat} {x : Int} (hx : a[i]? = some x) : lv (a.take (i + 1)) = lv (a.take i) + pw i * x := by
  rw [tks hx, lv_snoc, List.length_take, Nat.min_eq_left (by have := (List.getElem?_eq_some_iff.1 hx).1; omega)]
theorem take_stay {a : List Int} {i : Nat} (h : a.length ≤ i) : lv (a.take (i + 1)) = lv (a.take i) := by
  rw [take_all h, take_all (by omega)]
theorem plusJ_ok {a b : List Int} (ha : LW a) (hb : LW b) (hl : b.length ≤ a.length) (hn : a.length ≤ 1000) : Ret (integer_plus_j1 a b) (fun r => LW r ∧ Tm r ∧ lv r = lv a + lv b) := by
  unfold integer_plus_j1
  have h0 : mkLc (0 : Int) 0 (wa .i64 (a.length : Int) 1) = some [] := by
    rw [wa_i (by omega) (by omega)]; unfold mkLc BIG; rw [if_pos ⟨by omega, by omega, by omega⟩]; rfl
  rw [h0, obs, ret_bind]
  refine (ret_loop (Post := fun s : List Int × Int => LW s.1 ∧ s.1.length = a.length ∧ (s.2 = 0 ∨ s.2 = 1) ∧ lv s.1 + pw a.length * s.2 = lv a + lv b) a.length (fun i (s : List Int × Int × Int) => s.2.2 = (i : Int) ∧ LW s.1 ∧ s.1.length = i ∧ (s.2.1 = 0 ∨ s.2.1 = 1) ∧ lv s.1 + pw i * s.2.1 = lv (a.take i) + lv (b.take i)) ⟨rfl, by intro x hx; simp at hx, rfl, .inl rfl, by simp [lv]⟩ ?_ (by omega)).mono ?_
  · rintro i ⟨o, c, _⟩ hi ⟨rfl, h1, h2, h3, h4⟩
    simp only at h1 h2 h3 h4
    unfold integer_plus_l4 integer_plus_j5
    simp only
    rw [ret_if]
    refine ⟨fun hlt => ?_, fun hge => ⟨_, rfl, h1, by show o.length = _; omega, h3, ?_⟩⟩
    · have hia : i < a.length := by omega
      rw [ret_bind, ret_get]
      refine ⟨by omega, hlt, fun x hx => ?_⟩
      rw [Int.toNat_natCast] at hx
      have hxB := LW.get ha hx
      have e : B = 4294967296 := rfl
      have hcx : wc .u64 x = x := wc_u64_in ⟨hxB.1, by omega⟩
      have fin : ∀ (t : Int), 0 ≤ t → t < 2 * B → lv o + pw i * t = lv (a.take (i + 1)) + lv (b.take (i + 1)) → Ret ((app o [wc .u32 (wand .u64 t 4294967295)]).bind fun x52 => some (Sum.inl (β := List Int × Int) (x52, wsrc .u64 t 32, wa .i64 (i : Int) 1))) (VQ (fun s : List Int × Int × Int => i < a.length ∧ s.2.2 = ((i + 1 : Nat) : Int) ∧ LW s.1 ∧ s.1.length = i + 1 ∧ (s.2.1 = 0 ∨ s.2.1 = 1) ∧ lv s.1 + pw (i + 1) * s.2.1 = lv (a.take (i + 1)) + lv (b.take (i + 1))) (fun s : List Int × Int => LW s.1 ∧ s.1.length = a.length ∧ (s.2 = 0 ∨ s.2 = 1) ∧ lv s.1 + pw a.length * s.2 = lv a + lv b)) := by
        intro t t0 t1 ht
        have hm := Int.emod_nonneg t (show B ≠ 0 by omega)
        have hm2 := Int.emod_lt_of_pos t (show 0 < B by omega)
        have hd := Int.mul_ediv_add_emod t B
        rw [wand_low ⟨t0, by omega⟩, wsrc32 t0, wc_u32_in ⟨hm, hm2⟩, ret_bind, ret_app]
        refine ⟨by rw [h2]; simp only [List.length_cons, List.length_nil]; omega, _, rfl, hia, by show wa .i64 (i : Int) 1 = _; rw [wa_i (by omega) (by omega)]; rfl, LW.app.2 ⟨h1, LW.one.2 ⟨hm, hm2⟩⟩, by show (o ++ [_]).length = _; rw [List.length_append, h2]; rfl, by have q0 : 0 ≤ t / B := Int.ediv_nonneg t0 (by omega); have q1 : t / B < 2 := Int.ediv_lt_of_lt_mul (by omega) t1; show t / B = 0 ∨ t / B = 1; omega, ?_⟩
        show lv (o ++ [t % B]) + pw (i + 1) * (t / B) = _
        rw [lv_snoc, h2, ← ht]
        simp only [pw]
        have e3 : pw i * (B * (t / B) + t % B) = pw i * t := by rw [hd]
        have e4 : B * pw i * (t / B) = pw i * (B * (t / B)) := by grind
        rw [Int.mul_add] at e3
        omega
      have hts := take_succ hx
      rw [ret_if]
      refine ⟨fun hlb => ?_, fun hgb => ?_⟩
      · rw [ret_bind, ret_get]
        refine ⟨by omega, hlb, fun y hy => ?_⟩
        rw [Int.toNat_natCast] at hy
        have hyB := LW.get hb hy
        rw [hcx, wc_u64_in ⟨hyB.1, by omega⟩, wa_u64 (x := x) (y := c) ⟨by omega, by omega⟩, wa_u64 ⟨by omega, by omega⟩]
        refine fin _ (by omega) (by omega) ?_
        rw [hts, take_succ hy]
        have : pw i * (x + c + y) = pw i * x + pw i * c + pw i * y := by grind
        omega
      · rw [hcx, wa_u64 (x := x) (y := c) ⟨by omega, by omega⟩]
        refine fin _ (by omega) (by omega) ?_
        rw [hts, take_stay (a := b) (by omega)]
        have : pw i * (x + c) = pw i * x + pw i * c := by grind
        omega
    · have e : i = a.length := by omega
      subst e
      rw [List.take_length, take_all hl] at h4
      exact h4
  · rintro ⟨o, c⟩ ⟨h1, h2, h3, h4⟩
    simp only at h1 h2 h3 h4 ⊢
    have hc : wc .u32 c = c := wc_u32_in ⟨by omega, by unfold B; omega⟩
    have hlw : LW (o ++ [c]) := LW.app.2 ⟨h1, LW.one.2 ⟨by omega, by unfold B; omega⟩⟩
    rw [hc, ret_bind, ret_app]
    refine ⟨by rw [h2]; simp only [List.length_cons, List.length_nil]; omega, ?_⟩
    rw [trim_ok hlw (by rw [List.length_append, h2]; simp; omega), obs]
    exact ⟨_, rfl, trimL_lw hlw, trimL_tm _, by rw [trimL_lv, lv_snoc, h2]; exact h4⟩
theorem plus_ok {a b : List Int} (ha : LW a) (hb : LW b) (hn : a.length ≤ 1000) (hm : b.length ≤ 1000) : Ret (integer_plus a b) (fun r => LW r ∧ Tm r ∧ lv r = lv a + lv b) := by
  unfold integer_plus
  rw [ret_if]
  refine ⟨fun h => (plusJ_ok hb ha (by omega) hm).mono fun r hr => ⟨hr.1, hr.2.1, by omega⟩, fun h => plusJ_ok ha hb (by omega) hn⟩
end Km
/- The program's limbs: difference, machine integers, division by one limb; Reduce. -/
namespace Km
open Sx Go M Vc Lm
theorem low_borrow {v : Int} (h0 : -B ≤ v) (h1 : v < B) : ((v % 18446744073709551616) % B = v + B * (if v < 0 then 1 else 0)) ∧ ((v % 18446744073709551616) / B % 2 = if v < 0 then 1 else 0) ∧ 0 ≤ v % 18446744073709551616 ∧ v % 18446744073709551616 < 18446744073709551616 := by
  unfold B at *
  split <;> omega
theorem minus_ok {a b : List Int} (ha : LW a) (hb : LW b) (hn : a.length ≤ 1000) (hl : b.length ≤ a.length) (hv : lv b ≤ lv a) : Ret (integer_minus a b) (fun r => LW r ∧ Tm r ∧ lv r = lv a - lv b) := by
  have e : B = 4294967296 := rfl
  unfold integer_minus
  rw [ret_bind, ret_mkL]
  refine ⟨by omega, by omega, ?_⟩
  rw [Int.toNat_natCast, ret_bind]
  refine (ret_loop (Post := fun o : List Int => LW o ∧ o.length = a.length ∧ lv o = lv a - lv b) a.length (fun i (s : List Int × Int × Int) => s.2.2 = (i : Int) ∧ LW s.1 ∧ s.1.length = a.length ∧ (s.2.1 = 0 ∨ s.2.1 = 1) ∧ lv (s.1.take i) = lv (a.take i) - lv (b.take i) + pw i * s.2.1) ⟨rfl, fun x hx => by rw [List.mem_replicate] at hx; rw [hx.2]; omega, List.length_replicate .., .inl rfl, by simp [lv]⟩ ?_ (by omega)).mono ?_
  · rintro i ⟨o, c, _⟩ hi ⟨rfl, h1, h2, h3, h4⟩
    simp only at h1 h2 h3 h4
    unfold integer_minus_l3 integer_minus_j4
    simp only
    rw [ret_if]
    refine ⟨fun hlt => ?_, fun hge => ⟨_, rfl, h1, h2, ?_⟩⟩
    · have hia : i < a.length := by omega
      rw [ret_bind, ret_get]
      refine ⟨by omega, hlt, fun x hx => ?_⟩
      rw [Int.toNat_natCast] at hx
      have hxB := LW.get ha hx
      have hcx : wc .u64 x = x := wc_u64_in ⟨hxB.1, by omega⟩
      have hts := take_succ hx
      have fin : ∀ (t v : Int), t = v % 18446744073709551616 → -B ≤ v → v < B → lv (o.take i) + pw i * v = lv (a.take (i + 1)) - lv (b.take (i + 1)) → Ret ((setI o (i : Int) (wc .u32 (wand .u64 t 4294967295))).bind fun x35 => some (Sum.inl (β := List Int) (x35, wand .u64 (wsrc .u64 t 32) 1, wa .i64 (i : Int) 1))) (VQ (fun s : List Int × Int × Int => i < a.length ∧ s.2.2 = ((i + 1 : Nat) : Int) ∧ LW s.1 ∧ s.1.length = a.length ∧ (s.2.1 = 0 ∨ s.2.1 = 1) ∧ lv (s.1.take (i + 1)) = lv (a.take (i + 1)) - lv (b.take (i + 1)) + pw (i + 1) * s.2.1) (fun o : List Int => LW o ∧ o.length = a.length ∧ lv o = lv a - lv b)) := by
        intro t v ht v0 v1 hv
        obtain ⟨k1, k2, k3, k4⟩ := low_borrow v0 v1
        rw [← ht] at k1 k2 k3 k4
        have hm := Int.emod_nonneg t (show B ≠ 0 by omega)
        have hm2 := Int.emod_lt_of_pos t (show 0 < B by omega)
        have hd0 : 0 ≤ t / B := Int.ediv_nonneg k3 (by omega)
        have hd1 : t / B < 18446744073709551616 := Int.ediv_lt_of_lt_mul (by omega) (by omega)
        rw [wand_low ⟨k3, k4⟩, wsrc32 k3, wand_one ⟨hd0, hd1⟩, wc_u32_in ⟨hm, hm2⟩, k2, ret_bind, ret_set, Int.toNat_natCast]
        refine ⟨by omega, by omega, _, rfl, hia, by show wa .i64 (i : Int) 1 = _; rw [wa_i (by omega) (by omega)]; rfl, ?_, by show (o.set i _).length = _; rw [List.length_set, h2], by show (if v < 0 then (1 : Int) else 0) = 0 ∨ (if v < 0 then (1 : Int) else 0) = 1; split <;> omega, ?_⟩
        · intro y hy
          rcases List.mem_or_eq_of_mem_set hy with hy | rfl
          · exact h1 y hy
          · exact ⟨hm, hm2⟩
        · show lv ((o.set i (t % B)).take (i + 1)) = _ + pw (i + 1) * (if v < 0 then 1 else 0)
          have hs : (o.set i (t % B))[i]? = some (t % B) := by rw [List.getElem?_set_self]; omega
          rw [take_succ hs, List.take_set, List.set_eq_of_length_le (by rw [List.length_take]; omega), k1, ← hv]
          simp only [pw]
          generalize (if v < 0 then (1 : Int) else 0) = z
          grind
      rw [ret_if]
      refine ⟨fun hlb => ?_, fun hgb => ?_⟩
      · rw [ret_bind, ret_get]
        refine ⟨by omega, hlb, fun y hy => ?_⟩
        rw [Int.toNat_natCast] at hy
        have hyB := LW.get hb hy
        refine fin _ (x - c - y) ?_ (by omega) (by omega) ?_
        · rw [hcx, wc_u64_in ⟨hyB.1, by omega⟩, ws_u64, ws_u64]; omega
        · rw [hts, take_succ hy, h4]; grind
      · refine fin _ (x - c) ?_ (by omega) (by omega) ?_
        · rw [hcx, ws_u64]
        · rw [hts, take_stay (a := b) (by omega), h4]; grind
    · have ei : i = a.length := by omega
      subst ei
      rw [List.take_length, take_all hl, take_all (by omega)] at h4
      have hlt := lv_lt h1
      rw [h2] at hlt
      have hp := pw_pos a.length
      show lv o = _
      rcases h3 with rfl | rfl
      · omega
      · omega
  · rintro o ⟨h1, h2, h3⟩
    rw [trim_ok h1 (by omega), obs]
    exact ⟨_, rfl, trimL_lw h1, trimL_tm _, by rw [trimL_lv]; exact h3⟩
theorem len_le {l : List Int} {m : Nat} (hl : LW l) (ht : Tm l) (h : lv l < pw m) : l.length ≤ m := by
  refine Classical.byContradiction fun hc => ?_
  have hne : l ≠ [] := by rintro rfl; simp at hc
  have h5 := tm_lower hl ht hne
  have h7 := pw_mono (show m ≤ l.length - 1 by omega)
  omega
theorem tm_one {p : Int} (hp : 0 < p) : Tm [p] := by intro x hx; simp at hx; omega
theorem lw_one {p : Int} (hp : 0 < p) (hB : p < B) : LW [p] := LW.one.2 ⟨by omega, hB⟩
theorem trimL_len {l : List Int} (hl : LW l) : (trimL l).length ≤ l.length := len_le (trimL_lw hl) (trimL_tm l) (by rw [trimL_lv]; exact lv_lt hl)
/-- division by one limb -/
theorem divide1_ok {a : List Int} {p : Int} (ha : LW a) (ta : Tm a) (hn : a.length ≤ 999) (hp : 0 < p) (hB : p < B) : ∃ q r, integer_divide a [p] = some (q, r) ∧ LW q ∧ Tm q ∧ LW r ∧ Tm r ∧ lv q = lv a / p ∧ lv r = lv a % p ∧ q.length ≤ 1000 := by
  have lp : lv [p] = p := by simp [lv]
  have h0 := lv_nn ha
  unfold integer_divide
  rw [compare_ok ha (lw_one hp hB) ta (tm_one hp) (by omega) (by simp), obs, lp]
  by_cases hlt : lv a < p
  · rw [if_pos hlt, if_pos (by omega)]
    have hc : slices_Clone_uint32 a = some a := by
      unfold slices_Clone_uint32 app BIG
      rw [if_pos (by simp; omega), obs, List.nil_append]
    rw [hc, obs]
    exact ⟨[], a, rfl, by intro x hx; simp at hx, tm_nil, ha, ta, by rw [Int.ediv_eq_zero_of_lt h0 hlt]; rfl, by rw [Int.emod_eq_of_lt h0 hlt], by simp⟩
  · have hneg : ¬ (if lv a < p then (-1 : Int) else if p < lv a then 1 else 0) < 0 := by rw [if_neg hlt]; split <;> omega
    rw [if_neg hneg, if_pos (by simp)]
    have hg : getI [p] 0 = some p := rfl
    obtain ⟨q, hq, q1, q2, q3⟩ := short_ok ha (by omega) hp hB
    have hr := Int.emod_nonneg (lv a) (show p ≠ 0 by omega)
    have hr2 := Int.emod_lt_of_pos (lv a) hp
    have hlw : LW [lv a % p] := LW.one.2 ⟨hr, by omega⟩
    rw [hg, obs, hq, obs, trim_ok hlw (by simp), obs]
    refine ⟨q, _, rfl, q1, q2, trimL_lw hlw, trimL_tm _, q3, by rw [trimL_lv]; simp [lv], ?_⟩
    refine Classical.byContradiction fun hc => ?_
    have hne : q ≠ [] := by rintro rfl; simp at hc
    have h5 := tm_lower q1 q2 hne
    have h6 := lv_lt ha
    have h7 := pw_mono (show a.length ≤ q.length - 1 by omega)
    have h8 : lv a / p ≤ lv a := Int.ediv_le_self _ h0
    omega
end Km
/- The length of a limb. -/
namespace Km
open Sx Go M Vc Lm
def lenTab : List Int := [0, 1, 2, 2, 3, 3, 3, 3, 4, 4, 4, 4, 4, 4, 4, 4, 5, 5, 5, 5, 5, 5, 5, 5, 5, 5, 5, 5, 5, 5, 5, 5, 6, 6, 6, 6, 6, 6, 6, 6, 6, 6, 6, 6, 6, 6, 6, 6, 6, 6, 6, 6, 6, 6, 6, 6, 6, 6, 6, 6, 6, 6, 6, 6] ++ List.replicate 64 7 ++ List.replicate 128 8
theorem lenTab_ok : (List.range 256).all (fun k => match lenTab[k]? with | some v => decide (0 ≤ v) && decide (v ≤ 8) && decide ((k : Int) < 2 ^ v.toNat) && decide (k = 0 ∨ 2 ^ v.toNat ≤ 2 * (k : Int)) | none => false) = true := by decide +kernel
theorem lenT {x : Int} (h0 : 0 ≤ x) (h1 : x < 256) : ∃ v : Nat, getI lenTab x = some (v : Int) ∧ v ≤ 8 ∧ x < 2 ^ v ∧ (0 < x → 2 ^ v ≤ 2 * x) := by
  obtain ⟨k, rfl⟩ := Int.eq_ofNat_of_zero_le h0
  have := List.all_eq_true.1 lenTab_ok k (List.mem_range.2 (by omega))
  cases h : lenTab[k]? with
  | none => rw [h] at this; simp at this
  | some v =>
    rw [h] at this
    simp only [Bool.and_eq_true, decide_eq_true_eq] at this
    obtain ⟨⟨⟨a1, a2⟩, a3⟩, a4⟩ := this
    obtain ⟨w, rfl⟩ := Int.eq_ofNat_of_zero_le a1
    rw [Int.toNat_natCast] at a3 a4
    exact ⟨w, h, by omega, a3, fun hk => a4.resolve_left (by omega)⟩
theorem shr8 {x : Int} {n : Nat} (h : 0 ≤ x) (hn : n ≤ 32) : wsrc .u32 x n = x / 2 ^ n := by
  unfold wsrc
  show x.fdiv (2 ^ min n 32) = _
  rw [Nat.min_eq_left hn, Int.fdiv_eq_ediv_of_nonneg _ (Int.le_of_lt (Int.pow_pos (by omega)))]
theorem len_j2_eq (x c : Int) : math_bits_Len32_j2 x c = (getI lenTab (wc .u8 x)).bind fun x6 => some (wa .i64 c (wc .i64 x6)) := rfl
theorem len_j2 {x : Int} {c : Nat} (h0 : 0 ≤ x) (h1 : x < 256) (hc : c ≤ 24) : ∃ v : Nat, math_bits_Len32_j2 x (c : Int) = some ((c + v : Nat) : Int) ∧ v ≤ 8 ∧ x < 2 ^ v ∧ (0 < x → 2 ^ v ≤ 2 * x) := by
  obtain ⟨v, h2, h3, h4⟩ := lenT h0 h1
  refine ⟨v, ?_, h3, h4⟩
  have hcv : wc .u8 x = x := by unfold wc; rw [IntKind.wrap_u8]; omega
  rw [len_j2_eq, hcv, h2, obs, wc_i64_in ⟨by omega, by omega⟩, wa_i (by omega) (by omega)]
  congr 1
theorem len32_ok {x : Int} (h0 : 0 ≤ x) (h1 : x < B) : ∃ v : Nat, math_bits_Len32 x = some (v : Int) ∧ v ≤ 32 ∧ x < 2 ^ v ∧ (0 < x → 2 ^ v ≤ 2 * x) := by
  have e : B = 4294967296 := rfl
  have step : ∀ (y : Int) (c : Nat), 0 ≤ y → y < 65536 → c ≤ 16 → ∃ v : Nat, math_bits_Len32_j1 y (c : Int) = some ((c + v : Nat) : Int) ∧ v ≤ 16 ∧ y < 2 ^ v ∧ (0 < y → 2 ^ v ≤ 2 * y) := by
    intro y c y0 y1 hc
    unfold math_bits_Len32_j1
    by_cases h : 256 ≤ y
    · rw [if_pos h, shr8 y0 (by omega), show wa .i64 (c : Int) 8 = ((c + 8 : Nat) : Int) by rw [wa_i (by omega) (by omega)]; omega]
      obtain ⟨v, h2, h3, h4, h5⟩ := len_j2 (x := y / 2 ^ 8) (c := c + 8) (by omega) (by omega) (by omega)
      refine ⟨8 + v, by rw [h2]; congr 1; omega, by omega, ?_⟩
      rw [Int.pow_add]
      have := h5 (by omega)
      exact ⟨by omega, fun _ => by omega⟩
    · rw [if_neg h]
      obtain ⟨v, h2, h3, h4⟩ := len_j2 (x := y) (c := c) y0 (by omega) (by omega)
      exact ⟨v, h2, by omega, h4⟩
  unfold math_bits_Len32
  by_cases h : 65536 ≤ x
  · rw [if_pos h, shr8 h0 (by omega)]
    obtain ⟨v, h2, h3, h4, h5⟩ := step (x / 2 ^ 16) 16 (by omega) (by omega) (by omega)
    refine ⟨16 + v, h2, by omega, ?_⟩
    rw [Int.pow_add]
    have := h5 (by omega)
    exact ⟨by omega, fun _ => by omega⟩
  · rw [if_neg h]
    obtain ⟨v, h2, h3, h4⟩ := step x 0 h0 (by omega) (by omega)
    exact ⟨v, by rw [show (0 : Int) = ((0 : Nat) : Int) from rfl, h2]; congr 1; omega, by omega, h4⟩
/-- the shift that normalizes -/
theorem lead_ok {p : Int} (hp : 0 < p) (hB : p < B) : ∃ s : Nat, math_bits_LeadingZeros32 p = some (s : Int) ∧ s < 32 ∧ p * 2 ^ s < B ∧ B ≤ 2 * (p * 2 ^ s) := by
  obtain ⟨v, h1, h2, h3, h4⟩ := len32_ok (Int.le_of_lt hp) hB
  have hv : 0 < v := by
    rcases Nat.eq_zero_or_pos v with h | h
    · subst h; simp at h3; omega
    · exact h
  refine ⟨32 - v, ?_, by omega, ?_⟩
  · unfold math_bits_LeadingZeros32
    rw [h1, obs, ws_i (by omega) (by omega)]
    congr 1; omega
  · have e : (2 : Int) ^ v * 2 ^ (32 - v) = B := by
      rw [← Int.pow_add, show v + (32 - v) = 32 by omega]; rfl
    have hc : (0 : Int) < 2 ^ (32 - v) := Int.pow_pos (by omega)
    have := Int.mul_lt_mul_of_pos_right h3 hc
    have h6 := Int.mul_le_mul_of_nonneg_right (h4 hp) (Int.le_of_lt hc)
    rw [Int.mul_assoc] at h6
    omega
end Km
