/- Sizes of a forest: the program and the document give the same list. -/
import Derived.Test.YtoelidgkfpmgnaaPlE
namespace Pl
open Sx Go M

/-- 1 when p is met on the way up from v over links of nodes below k -/
def ai (par : List Int) (k : Nat) : Nat → Nat → Nat → Nat
  | 0, _, _ => 0
  | f + 1, v, p => if v = p then 1 else if v < k then (match par[v]? with
    | some q => if q = -1 then 0 else ai par k f q.toNat p
    | none => 0) else 0
def A (par : List Int) (k v p : Nat) : Nat := ai par k (par.length - v) v p

theorem A_def {par : List Int} (hF : Fo par) {k v p : Nat} (hv : v < par.length) : A par k v p = if v = p then 1 else if v < k then (if par[v] = -1 then 0 else A par k par[v].toNat p) else 0 := by
  have stab : ∀ m f v, par.length ≤ f + v → m = par.length - v → ai par k (f + 1) v p = ai par k f v p ∨ par.length ≤ v := by
    intro m
    induction m using Nat.strongRecOn with
    | _ m ih =>
      intro f v hf hm
      by_cases hv : par.length ≤ v
      · exact .inr hv
      · refine .inl ?_
        cases f with
        | zero => omega
        | succ f =>
          rw [ai, ai]
          split
          · rfl
          · split
            · cases hp : par[v]? with
              | none => rfl
              | some q =>
                simp only
                by_cases h0 : q = -1
                · rw [if_pos h0, if_pos h0]
                · rw [if_neg h0, if_neg h0]
                  have h1 := (hF v (by omega) q hp).resolve_left h0
                  rcases ih (par.length - q.toNat) (by omega) f q.toNat (by omega) rfl with h | h
                  · exact h
                  · omega
            · rfl
  have stab2 : ∀ d v, v < par.length → ai par k (par.length - v + d) v p = A par k v p := by
    intro d v hv
    induction d with
    | zero => rfl
    | succ d ih =>
      rw [← ih]
      exact (stab _ (par.length - v + d) v (by omega) rfl).resolve_right (by omega)
  have e : par.length - v = (par.length - v - 1) + 1 := by omega
  unfold A
  conv => lhs; rw [e]
  rw [ai]
  have hg : par[v]? = some par[v] := by simp [hv]
  rw [hg]
  simp only
  split
  · rfl
  · split
    · by_cases h0 : par[v] = -1
      · rw [if_pos h0, if_pos h0]
      · rw [if_neg h0, if_neg h0]
        have h1 := (hF v hv _ hg).resolve_left h0
        have := stab2 (par[v].toNat - v - 1) par[v].toNat (by omega)
        rw [show par.length - par[v].toNat + (par[v].toNat - v - 1) = par.length - v - 1 by omega] at this
        rw [this]; rfl
    · rfl

theorem A_above {par : List Int} (hF : Fo par) {k : Nat} : ∀ m v p, m = par.length - v → v < par.length → p < v → A par k v p = 0 := by
  intro m
  induction m using Nat.strongRecOn with
  | _ m ih =>
    intro v p hm hv hp
    rw [A_def hF hv, if_neg (by omega)]
    split
    · split
      · rfl
      · rename_i h0
        have h1 := (hF v hv _ (by simp [hv])).resolve_left h0
        exact ih (par.length - par[v].toNat) (by omega) _ p rfl (by omega) (by omega)
    · rfl

/-- one more link -/
theorem A_step {par : List Int} (hF : Fo par) {k : Nat} (hk : k < par.length) (p : Nat) : ∀ m v, m = par.length - v → v < par.length →
    A par (k + 1) v p = A par k v p + (if par[k] = (p : Int) then A par (k + 1) v k else 0) := by
  intro m
  induction m using Nat.strongRecOn with
  | _ m ih =>
    intro v hm hv
    have hkk := hF k hk par[k] (by simp [hk])
    by_cases hvk : v = k
    · subst hvk
      rw [A_def hF hv (k := v + 1), A_def hF hv (k := v) (p := p), A_def hF hv (k := v + 1) (p := v), if_pos rfl, if_pos (by omega : v < v + 1), if_neg (by omega : ¬ v < v)]
      by_cases h0 : par[v] = -1
      · rw [if_pos h0, if_neg (show ¬ par[v] = (p : Int) by omega)]; simp
      · rw [if_neg h0]
        have h1 := hkk.resolve_left h0
        by_cases hp : par[v] = (p : Int)
        · rw [if_pos hp, if_neg (by omega), if_neg (by omega)]
          rw [A_def hF (by omega), if_pos (by omega)]
        · rw [if_neg hp]
          by_cases hvp : v = p
          · rw [if_pos hvp, if_pos hvp]
          · rw [if_neg hvp, if_neg hvp, A_def hF (by omega), if_neg (by omega), if_neg (by omega)]
    · by_cases hvk2 : v < k
      · rw [A_def hF hv (k := k + 1), A_def hF hv (k := k), A_def hF hv (k := k + 1) (p := k), if_pos (by omega : v < k + 1), if_pos (by omega : v < k + 1), if_pos hvk2, if_neg hvk]
        by_cases h0 : par[v] = -1
        · rw [if_pos h0, if_pos h0, if_pos h0]; simp
        · rw [if_neg h0, if_neg h0, if_neg h0]
          have h1 := (hF v hv _ (by simp [hv])).resolve_left h0
          by_cases hvp : v = p
          · rw [if_pos hvp, if_pos hvp, if_neg (by omega)]
          · rw [if_neg hvp, if_neg hvp]
            exact ih (par.length - par[v].toNat) (by omega) _ rfl (by omega)
      · rw [A_def hF hv (k := k + 1), A_def hF hv (k := k), A_def hF hv (k := k + 1) (p := k), if_neg (by omega : ¬ v < k + 1), if_neg (by omega : ¬ v < k + 1), if_neg hvk2, if_neg hvk]
        simp

def sm (g : Nat → Nat) : Nat → Nat
  | 0 => 0
  | n + 1 => sm g n + g n
theorem sm_congr {g h : Nat → Nat} : ∀ n, (∀ v, v < n → g v = h v) → sm g n = sm h n := by
  intro n
  induction n with
  | zero => intro _; rfl
  | succ n ih => intro H; rw [sm, sm, ih (fun v hv => H v (by omega)), H n (by omega)]
theorem sm_add {g h : Nat → Nat} : ∀ n, sm (fun v => g v + h v) n = sm g n + sm h n := by
  intro n
  induction n with
  | zero => rfl
  | succ n ih => rw [sm, sm, sm, ih]; omega
theorem A_le {par : List Int} (hF : Fo par) {k : Nat} : ∀ m v p, m = par.length - v → v < par.length → A par k v p ≤ 1 := by
  intro m
  induction m using Nat.strongRecOn with
  | _ m ih =>
    intro v p hm hv
    rw [A_def hF hv]
    split
    · omega
    · split
      · split
        · omega
        · rename_i h0
          have h1 := (hF v hv _ (by simp [hv])).resolve_left h0
          exact ih (par.length - par[v].toNat) (by omega) _ p rfl (by omega)
      · omega
theorem sm_le {g : Nat → Nat} : ∀ n, (∀ v, v < n → g v ≤ 1) → sm g n ≤ n := by
  intro n
  induction n with
  | zero => intro _; exact Nat.le_refl _
  | succ n ih => intro H; rw [sm]; have := ih (fun v hv => H v (by omega)); have := H n (by omega); omega
/-- how many nodes below k lead to p over links of nodes below k' -/
def S (par : List Int) (k' k p : Nat) : Nat := sm (fun v => A par k' v p) k
theorem S_le {par : List Int} (hF : Fo par) {k' k p : Nat} (hk : k ≤ par.length) : S par k' k p ≤ k := sm_le k fun v hv => A_le hF _ v p rfl (by omega)
theorem S_step {par : List Int} (hF : Fo par) {k : Nat} (hk : k < par.length) (p : Nat) : S par (k + 1) (k + 1) p = S par k k p + A par k k p + (if par[k] = (p : Int) then S par (k + 1) (k + 1) k else 0) := by
  have h := sm_congr (g := fun v => A par (k + 1) v p) (h := fun v => A par k v p + (if par[k] = (p : Int) then A par (k + 1) v k else 0)) (k + 1) (fun v hv => A_step hF hk p _ v rfl (by omega))
  rw [sm_add] at h
  unfold S
  rw [h]
  by_cases hp : par[k] = (p : Int)
  · simp only [hp, if_true, sm]
  · have : ∀ n, sm (fun _ => 0) n = 0 := by intro n; induction n with | zero => rfl | succ n ih => rw [sm, ih]
    simp only [hp, if_false, this, sm]

theorem sizes_e {par : List Int} (hn : par.length ≤ 200) (hF : Fo par) : etree_Sizes par = some ((List.range par.length).map fun p => (S par par.length par.length p : Int), 0) := by
  unfold etree_Sizes
  have hc : etree_Check par = some 0 := by
    rcases check_e par hn with h | h
    · exact h.1
    · exact absurd hF h.2
  rw [bindS hc, if_pos rfl, bindS (mkL_nat 0 par.length (by omega))]
  obtain ⟨o, h1, h2⟩ := forG (step := etree_Sizes_l3 par) (fun k (s : List Int) => (s, (k : Int))) par.length (by omega) (fun k s => s.length = par.length ∧ ∀ p, p < par.length → s[p]? = some (S par k k p : Int))
      (fun o => o = (List.range par.length).map fun p => (S par par.length par.length p : Int)) (s0 := List.replicate par.length 0) ⟨by simp, fun p hp => by simp [hp, S, sm]⟩ (by
        rintro k s hk ⟨hl, hg⟩
        have hgk : par[k]? = some par[k] := by simp [hk]
        have hS := S_le hF (k' := k) (k := k) (p := k) (by omega)
        have hAk : A par k k k = 1 := by rw [A_def hF hk, if_pos rfl]
        have hSk : S par (k + 1) (k + 1) k = S par k k k + 1 := by
          have := S_step hF hk k
          rw [hAk] at this
          rw [this, if_neg]; rcases hF k hk _ hgk with h | h <;> omega
        have hAp : ∀ p, p ≠ k → A par k k p = 0 := by
          intro p hp
          rw [A_def hF hk, if_neg (by omega), if_neg (by omega)]
        unfold etree_Sizes_l3
        simp only
        rw [if_pos (by omega), bindS (getI_lt hk), bindS (getI_cast s k ▸ hg k hk), wa_in (by constructor <;> omega), bindS (setI_lt (by omega))]
        by_cases h0 : par[k] = -1
        · rw [if_pos h0]
          unfold etree_Sizes_j4
          rw [wa1 (by omega)]
          refine .inl ⟨_, rfl, by simp [hl], fun p hp => ?_⟩
          simp only [List.getElem?_set]
          have h3 := S_step hF hk p
          rw [if_neg (by omega)] at h3
          by_cases hkp : k = p
          · subst hkp
            rw [if_pos rfl, if_pos (by omega), hSk]; rfl
          · rw [if_neg hkp, hg p hp, h3, hAp p (by omega)]; rfl
        · rw [if_neg h0]
          have hjp := (hF k hk _ hgk).resolve_left h0
          have hq : par[k].toNat < par.length := by omega
          have hSq := S_le hF (k' := k) (k := k) (p := par[k].toNat) (by omega)
          have hgq : getI (s.set k ((S par k k k : Int) + 1)) par[k] = some (S par k k par[k].toNat : Int) := by
            refine getI_of (by omega) ?_
            rw [List.getElem?_set, if_neg (by omega)]; exact hg _ hq
          have hgk2 : getI (s.set k ((S par k k k : Int) + 1)) (k : Int) = some ((S par k k k : Int) + 1) := by
            rw [getI_cast, List.getElem?_set, if_pos rfl, if_pos (by omega)]
          rw [bindS hgq, bindS hgk2, wa_in (by constructor <;> omega), bindS (setI_of (by omega) (by simp; omega))]
          unfold etree_Sizes_j4
          rw [wa1 (by omega)]
          refine .inl ⟨_, rfl, by simp [hl], fun p hp => ?_⟩
          simp only [List.getElem?_set, List.length_set]
          have h3 := S_step hF hk p
          by_cases hqp : par[k].toNat = p
          · rw [if_pos hqp, if_pos (by omega)]
            rw [if_pos (by omega), hAp p (by omega), hSk] at h3
            rw [h3, hqp]; congr 1
          · rw [if_neg hqp]
            rw [if_neg (by omega)] at h3
            by_cases hkp : k = p
            · subst hkp
              rw [if_pos rfl, if_pos (by omega), hSk]; rfl
            · rw [if_neg hkp, hg p hp, h3, hAp p (by omega)]; rfl) (by
        rintro s ⟨hl, hg⟩
        unfold etree_Sizes_l3
        simp only
        rw [if_neg (by omega)]
        refine ⟨_, rfl, ?_⟩
        apply List.ext_getElem?
        intro j
        by_cases hj : j < par.length
        · rw [hg j hj]; simp [hj]
        · rw [List.getElem?_eq_none (by omega), List.getElem?_eq_none (by simp; omega)])
  have h1' : loop (etree_Sizes_l3 par) (List.replicate par.length 0, 0) = some o := h1
  rw [bindS h1', h2]

theorem sclimb {par : List Int} (hn : par.length ≤ 200) (hF : Fo par) {v : Nat} (hv : v < par.length) {s : List Int} (hl : s.length = par.length) (f : Nat → Nat) (hf : ∀ p, p < par.length → f p ≤ 200) (hg : ∀ p, p < par.length → s[p]? = some (f p : Int)) :
    ∃ o, loop (sparseref19_Sizes_l4 par) (s, (v : Int)) = some o ∧ o.length = par.length ∧ ∀ p, p < par.length → o[p]? = some ((f p + A par par.length v p : Nat) : Int) := by
  obtain ⟨o, h1, h2⟩ := whileG (step := sparseref19_Sizes_l4 par) (s := (s, (v : Int)))
      (fun s => s.1.length = par.length ∧ ((s.2 = -1 ∧ ∀ p, p < par.length → s.1[p]? = some ((f p + A par par.length v p : Nat) : Int)) ∨
        (0 ≤ s.2 ∧ s.2 < par.length ∧ ∃ g : Nat → Nat, ∀ p, p < par.length → s.1[p]? = some (g p : Int) ∧ g p + A par par.length s.2.toNat p = f p + A par par.length v p)))
      (fun o => o.length = par.length ∧ ∀ p, p < par.length → o[p]? = some ((f p + A par par.length v p : Nat) : Int)) (fun s => if s.2 < 0 then 0 else par.length - s.2.toNat)
      ⟨hl, .inr ⟨by simp only; omega, by simp only; omega, f, fun p hp => ⟨hg p hp, by simp⟩⟩⟩ (by simp only; split <;> omega) (by
      rintro ⟨s, q⟩ ⟨hl, h⟩
      simp only at h hl
      unfold sparseref19_Sizes_l4
      simp only
      rcases h with ⟨rfl, h⟩ | ⟨hq0, hq1, g, h⟩
      · rw [if_neg (by omega)]
        exact .inr ⟨_, rfl, hl, h⟩
      · rw [if_pos hq0]
        have hql : q.toNat < par.length := by omega
        have hgq : par[q.toNat]? = some par[q.toNat] := by simp [hql]
        have hAq : A par par.length q.toNat q.toNat = 1 := by rw [A_def hF hql, if_pos rfl]
        have hAv := A_le hF (k := par.length) _ v q.toNat rfl hv
        have hgI : getI par q = some par[q.toNat] := getI_of hq0 hgq
        have h3 := h q.toNat hql
        have h4 := hf q.toNat hql
        rw [bindS (getI_of hq0 h3.1), wa_in (by constructor <;> omega), bindS (setI_of hq0 (by omega)), bindS hgI]
        have hset : ∀ p, p < par.length → (s.set q.toNat ((g q.toNat : Int) + 1))[p]? = some ((g p + (if q.toNat = p then 1 else 0) : Nat) : Int) := by
          intro p hp
          rw [List.getElem?_set]
          by_cases hqp : q.toNat = p
          · subst hqp
            rw [if_pos rfl, if_pos (by omega), if_pos rfl]; rfl
          · rw [if_neg hqp, if_neg hqp, (h p hp).1]; rfl
        refine .inl ⟨_, rfl, ⟨by simp [hl], ?_⟩, ?_⟩
        · rcases hF _ hql _ hgq with h5 | h5
          · refine .inl ⟨h5, fun p hp => ?_⟩
            have h6 := (h p hp).2
            rw [A_def hF hql, if_pos hql, if_pos h5] at h6
            rw [hset p hp]
            congr 2
          · refine .inr ⟨by simp only; omega, h5.2, fun p => g p + (if q.toNat = p then 1 else 0), fun p hp => ⟨hset p hp, ?_⟩⟩
            have h6 := (h p hp).2
            rw [A_def hF hql, if_pos hql, if_neg (show ¬ par[q.toNat] = -1 by omega)] at h6
            simp only
            by_cases hqp : q.toNat = p
            · have := A_above hF (k := par.length) _ par[q.toNat].toNat p rfl (by omega) (by omega)
              rw [if_pos hqp] at h6 ⊢
              omega
            · rw [if_neg hqp] at h6 ⊢
              omega
        · simp only
          rcases hF _ hql _ hgq with h3 | h3
          · rw [if_pos (by omega), if_neg (by omega)]; omega
          · rw [if_neg (by omega), if_neg (by omega)]; omega)
  exact ⟨o, h1, h2⟩

theorem sizes_r {par : List Int} (hn : par.length ≤ 200) (hF : Fo par) : sparseref19_Sizes par = some ((List.range par.length).map fun p => (S par par.length par.length p : Int), 0) := by
  unfold sparseref19_Sizes
  have hc : sparseref19_Check par = some 0 := by
    rcases check_r par hn with h | h
    · exact h.1
    · exact absurd hF h.2
  rw [bindS hc, if_pos rfl, bindS (mkL_nat 0 par.length (by omega))]
  obtain ⟨o, h1, h2⟩ := forG (step := sparseref19_Sizes_l3 par) (fun k (s : List Int) => (s, (k : Int))) par.length (by omega) (fun k s => s.length = par.length ∧ ∀ p, p < par.length → s[p]? = some (S par par.length k p : Int))
      (fun o => o = (List.range par.length).map fun p => (S par par.length par.length p : Int)) (s0 := List.replicate par.length 0) ⟨by simp, fun p hp => by simp [hp, S, sm]⟩ (by
        rintro k s hk ⟨hl, hg⟩
        obtain ⟨o, h1, h2, h3⟩ := sclimb hn hF hk hl (fun p => S par par.length k p) (fun p hp => by have := S_le hF (k' := par.length) (k := k) (p := p) (by omega); omega) hg
        unfold sparseref19_Sizes_l3
        simp only
        rw [if_pos (by omega), bindS h1, wa1 (by omega)]
        exact .inl ⟨_, rfl, h2, h3⟩) (by
        rintro s ⟨hl, hg⟩
        unfold sparseref19_Sizes_l3
        simp only
        rw [if_neg (by omega)]
        refine ⟨_, rfl, ?_⟩
        apply List.ext_getElem?
        intro j
        by_cases hj : j < par.length
        · rw [hg j hj]; simp [hj]
        · rw [List.getElem?_eq_none (by omega), List.getElem?_eq_none (by simp; omega)])
  have h1' : loop (sparseref19_Sizes_l3 par) (List.replicate par.length 0, 0) = some o := h1
  rw [bindS h1', h2]
end Pl
