/- The document's parents, and the law of the making of the tree over the models. -/
import Derived.Test.YtoelidgkfpmgnaaDoorPlP
namespace Pl
open Sx Go M

theorem Ts.congr {T : List (List Bool)} {n : Nat} {R R' : Nat → Nat → Prop} (h : ∀ i j, i < n → j < n → (R i j ↔ R' i j)) (hT : Ts T n R) : Ts T n R' := by
  obtain ⟨b, h1, h2⟩ := hT
  exact ⟨b, h1, fun i j hi hj => (h2 i j hi hj).trans (h i j hi hj)⟩
theorem Ts.set {T : List (List Bool)} {n : Nat} {R : Nat → Nat → Prop} (hT : Ts T n R) {i j : Nat} (hi : i < n) {r : List Bool} (hr : T[i]? = some r) : Ts (T.set i (r.set j true)) n (fun a c => (a = i ∧ c = j) ∨ R a c) := by
  obtain ⟨b, h1, h2⟩ := hT
  refine ⟨_, h1.set hi hr, fun a c ha hc => ?_⟩
  simp only
  by_cases h : a = i ∧ c = j
  · rw [if_pos h]; simp [h]
  · rw [if_neg h, h2 a c ha hc]
    exact ⟨.inr, fun h3 => h3.resolve_left h⟩
theorem Ts.row {T : List (List Bool)} {n : Nat} {R : Nat → Nat → Prop} (hT : Ts T n R) {i : Nat} (hi : i < n) : ∃ r, T[i]? = some r ∧ r.length = n := by
  obtain ⟨b, h1, _⟩ := hT
  obtain ⟨r, h3, h4, _⟩ := h1.2 i hi
  exact ⟨r, h3, h4⟩

def nl (b : Nat → Nat → Bool) (k : Nat) : Nat → List Int
  | 0 => []
  | m + 1 => nl b k m ++ (if b k m = true ∧ ¬ m < k then [(m : Int)] else [])
theorem nl_mem {b : Nat → Nat → Bool} {k : Nat} {x : Int} : ∀ m, x ∈ nl b k m ↔ 0 ≤ x ∧ x.toNat < m ∧ b k x.toNat = true ∧ ¬ x.toNat < k := by
  intro m
  induction m with
  | zero => simp [nl]
  | succ m ih =>
    rw [nl, List.mem_append, ih]
    constructor
    · rintro (h | h)
      · exact ⟨h.1, by omega, h.2.2⟩
      · split at h
        · rename_i hc
          simp only [List.mem_singleton] at h; subst h
          exact ⟨by omega, by omega, by simpa using hc⟩
        · simp at h
    · rintro ⟨h1, h2, h3⟩
      by_cases hx : x.toNat = m
      · right
        rw [hx] at h3
        rw [if_pos h3]
        simp; omega
      · exact .inl ⟨h1, by omega, h3⟩
theorem nl_asc {b : Nat → Nat → Bool} {k : Nat} : ∀ m, (nl b k m).Pairwise (· < ·) := by
  intro m
  induction m with
  | zero => exact .nil
  | succ m ih =>
    rw [nl, List.pairwise_append]
    refine ⟨ih, ?_, ?_⟩
    · split <;> simp
    · intro x hx y hy
      have := (nl_mem m).1 hx
      split at hy
      · simp at hy; omega
      · simp at hy
theorem nl_len {b : Nat → Nat → Bool} {k : Nat} : ∀ m, (nl b k m).length ≤ m := by
  intro m
  induction m with
  | zero => simp [nl]
  | succ m ih => rw [nl, List.length_append]; split <;> simp <;> omega

def Gone (g : List Bool) (n k : Nat) : Prop := g.length = n ∧ ∀ j, j < n → g[j]? = some (decide (j < k))

end Pl
