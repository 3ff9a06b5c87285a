/- Sizes of a forest: the program and the document give the same list. -/
import Derived.Test.YtoelidgkfpmgnaaDoorPlE
namespace Pl
open Sx Go M

/-- 1 when p is met on the way up from v over links of nodes below k -/
def ai (par : List Int) (k : Nat) : Nat → Nat → Nat → Nat
  | 0, _, _ => 0
  | f + 1, v, p => if v = p then 1 else if v < k then (match par[v]? with
    | some q => if q = -1 then 0 else ai par k f q.toNat p
    | none => 0) else 0
def A (par : List Int) (k v p : Nat) : Nat := ai par k (par.length - v) v p

theorem A_def {par : List Int} (hF : Fo par) {k v p : Nat} (hv : v < par.length) : A par k v p = if v = p then 1 else if v < k then (if par[v] = -1 then 0 else A par k par[v].toNat p) else 0 := by
  have stab : ∀ m f v, par.length ≤ f + v → m = par.length - v → ai par k (f + 1) v p = ai par k f v p ∨ par.length ≤ v := by
    intro m
    induction m using Nat.strongRecOn with
    | _ m ih =>
      intro f v hf hm
      by_cases hv : par.length ≤ v
      · exact .inr hv
      · refine .inl ?_
        cases f with
        | zero => omega
        | succ f =>
          rw [ai, ai]
          split
          · rfl
          · split
            · cases hp : par[v]? with
              | none => rfl
              | some q =>
                simp only
                by_cases h0 : q = -1
                · rw [if_pos h0, if_pos h0]
                · rw [if_neg h0, if_neg h0]
                  have h1 := (hF v (by omega) q hp).resolve_left h0
                  rcases ih (par.length - q.toNat) (by omega) f q.toNat (by omega) rfl with h | h
                  · exact h
                  · omega
            · rfl
  have stab2 : ∀ d v, v < par.length → ai par k (par.length - v + d) v p = A par k v p := by
    intro d v hv
    induction d with
    | zero => rfl
    | succ d ih =>
      rw [← ih]
      exact (stab _ (par.length - v + d) v (by omega) rfl).resolve_right (by omega)
  have e : par.length - v = (par.length - v - 1) + 1 := by omega
  unfold A
  conv => lhs; rw [e]
  rw [ai]
  have hg : par[v]? = some par[v] := by simp [hv]
  rw [hg]
  simp only
  split
  · rfl
  · split
    · by_cases h0 : par[v] = -1
      · rw [if_pos h0, if_pos h0]
      · rw [if_neg h0, if_neg h0]
        have h1 := (hF v hv _ hg).resolve_left h0
        have := stab2 (par[v].toNat - v - 1) par[v].toNat (by omega)
        rw [show par.length - par[v].toNat + (par[v].toNat - v - 1) = par.length - v - 1 by omega] at this
        rw [this]; rfl
    · rfl

theorem A_above {par : List Int} (hF : Fo par) {k : Nat} : ∀ m v p, m = par.length - v → v < par.length → p < v → A par k v p = 0 := by
  intro m
  induction m using Nat.strongRecOn with
  | _ m ih =>
    intro v p hm hv hp
    rw [A_def hF hv, if_neg (by omega)]
    split
    · split
      · rfl
      · rename_i h0
        have h1 := (hF v hv _ (by simp [hv])).resolve_left h0
        exact ih (par.length - par[v].toNat) (by omega) _ p rfl (by omega) (by omega)
    · rfl

/-- one more link -/
theorem A_step {par : List Int} (hF : Fo par) {k : Nat} (hk : k < par.length) (p : Nat) : ∀ m v, m = par.length - v → v < par.length →
    A par (k + 1) v p = A par k v p + (if par[k] = (p : Int) then A par (k + 1) v k else 0) := by
  intro m
  induction m using Nat.strongRecOn with
  | _ m ih =>
    intro v hm hv
    have hkk := hF k hk par[k] (by simp [hk])
    by_cases hvk : v = k
    · subst hvk
      rw [A_def hF hv (k := v + 1), A_def hF hv (k := v) (p := p), A_def hF hv (k := v + 1) (p := v), if_pos rfl, if_pos (by omega : v < v + 1), if_neg (by omega : ¬ v < v)]
      by_cases h0 : par[v] = -1
      · rw [if_pos h0, if_neg (show ¬ par[v] = (p : Int) by omega)]; simp
      · rw [if_neg h0]
        have h1 := hkk.resolve_left h0
        by_cases hp : par[v] = (p : Int)
        · rw [if_pos hp, if_neg (by omega), if_neg (by omega)]
          rw [A_def hF (by omega), if_pos (by omega)]
        · rw [if_neg hp]
          by_cases hvp : v = p
          · rw [if_pos hvp, if_pos hvp]
          · rw [if_neg hvp, if_neg hvp, A_def hF (by omega), if_neg (by omega), if_neg (by omega)]
    · by_cases hvk2 : v < k
      · rw [A_def hF hv (k := k + 1), A_def hF hv (k := k), A_def hF hv (k := k + 1) (p := k), if_pos (by omega : v < k + 1), if_pos (by omega : v < k + 1), if_pos hvk2, if_neg hvk]
        by_cases h0 : par[v] = -1
        · rw [if_pos h0, if_pos h0, if_pos h0]; simp
        · rw [if_neg h0, if_neg h0, if_neg h0]
          have h1 := (hF v hv _ (by simp [hv])).resolve_left h0
          by_cases hvp : v = p
          · rw [if_pos hvp, if_pos hvp, if_neg (by omega)]
          · rw [if_neg hvp, if_neg hvp]
            exact ih (par.length - par[v].toNat) (by omega) _ rfl (by omega)
      · rw [A_def hF hv (k := k + 1), A_def hF hv (k := k), A_def hF hv (k := k + 1) (p := k), if_neg (by omega : ¬ v < k + 1), if_neg (by omega : ¬ v < k + 1), if_neg hvk2, if_neg hvk]
        simp

def sm (g : Nat → Nat) : Nat → Nat
  | 0 => 0
  | n + 1 => sm g n + g n
theorem sm_congr {g h : Nat → Nat} : ∀ n, (∀ v, v < n → g v = h v) → sm g n = sm h n := by
  intro n
  induction n with
  | zero => intro _; rfl
  | succ n ih => intro H; rw [sm, sm, ih (fun v hv => H v (by omega)), H n (by omega)]
theorem sm_add {g h : Nat → Nat} : ∀ n, sm (fun v => g v + h v) n = sm g n + sm h n := by
  intro n
  induction n with
  | zero => rfl
  | succ n ih => rw [sm, sm, sm, ih]; omega
theorem A_le {par : List Int} (hF : Fo par) {k : Nat} : ∀ m v p, m = par.length - v → v < par.length → A par k v p ≤ 1 := by
  intro m
  induction m using Nat.strongRecOn with
  | _ m ih =>
    intro v p hm hv
    rw [A_def hF hv]
    split
    · omega
    · split
      · split
        · omega
        · rename_i h0
          have h1 := (hF v hv _ (by simp [hv])).resolve_left h0
          exact ih (par.length - par[v].toNat) (by omega) _ p rfl (by omega)
      · omega
theorem sm_le {g : Nat → Nat} : ∀ n, (∀ v, v < n → g v ≤ 1) → sm g n ≤ n := by
  intro n
  induction n with
  | zero => intro _; exact Nat.le_refl _
  | succ n ih => intro H; rw [sm]; have := ih (fun v hv => H v (by omega)); have := H n (by omega); omega
/-- how many nodes below k lead to p over links of nodes below k' -/
def S (par : List Int) (k' k p : Nat) : Nat := sm (fun v => A par k' v p) k
theorem S_le {par : List Int} (hF : Fo par) {k' k p : Nat} (hk : k ≤ par.length) : S par k' k p ≤ k := sm_le k fun v hv => A_le hF _ v p rfl (by omega)
theorem S_step {par : List Int} (hF : Fo par) {k : Nat} (hk : k < par.length) (p : Nat) : S par (k + 1) (k + 1) p = S par k k p + A par k k p + (if par[k] = (p : Int) then S par (k + 1) (k + 1) k else 0) := by
  have h := sm_congr (g := fun v => A par (k + 1) v p) (h := fun v => A par k v p + (if par[k] = (p : Int) then A par (k + 1) v k else 0)) (k + 1) (fun v hv => A_step hF hk p _ v rfl (by omega))
  rw [sm_add] at h
  unfold S
  rw [h]
  by_cases hp : par[k] = (p : Int)
  · simp only [hp, if_true, sm]
  · have : ∀ n, sm (fun _ => 0) n = 0 := by intro n; induction n with | zero => rfl | succ n ih => rw [sm, ih]
    simp only [hp, if_false, this, sm]

end Pl
