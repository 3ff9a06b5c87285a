/- Graphs that the laws make: the lists of a symmetric table; the program's check and search. -/
import Derived.Test.YthpeajepbffinaaGreatPlB
namespace Pl
open Sx Go M

/-- neighbour lists of a graph with n nodes -/
structure Gr (adj : List (List Int)) : Prop where
 asc : ∀ (v : Nat) l, adj[v]? = some l → l.Pairwise (· < ·)
 rng : ∀ (v : Nat) l x, adj[v]? = some l → x ∈ l → 0 ≤ x ∧ x < adj.length ∧ x ≠ (v : Int)
 sym : ∀ (v : Nat) l x, adj[v]? = some l → x ∈ l → ∃ m, adj[x.toNat]? = some m ∧ (v : Int) ∈ m

/-- a table as a function -/
def Tb (T : List (List Bool)) (n : Nat) (b : Nat → Nat → Bool) : Prop := T.length = n ∧ ∀ i, i < n → ∃ r, T[i]? = some r ∧ r.length = n ∧ ∀ j, j < n → r[j]? = some (b i j)
theorem Tb.get {T : List (List Bool)} {n : Nat} {b : Nat → Nat → Bool} (h : Tb T n b) {i : Nat} (hi : i < n) : ∃ r, getI T (i : Int) = some r ∧ T[i]? = some r ∧ r.length = n ∧ (∀ j : Nat, j < n → getI r (j : Int) = some (b i j)) := by
 obtain ⟨r, h1, h2, h3⟩ := h.2 i hi
 exact ⟨r, h1, h1, h2, fun j hj => h3 j hj⟩
theorem Tb.set {T : List (List Bool)} {n : Nat} {b : Nat → Nat → Bool} (h : Tb T n b) {i j : Nat} (hi : i < n) {r : List Bool} (hr : T[i]? = some r) : Tb (T.set i (r.set j true)) n (fun a c => if a = i ∧ c = j then true else b a c) := by
 refine ⟨by simp [h.1], fun a ha => ?_⟩
 by_cases hai : a = i
 ·subst hai
  obtain ⟨r', h1, h2, h3⟩ := h.2 a ha
  rw [hr] at h1; cases h1
  refine ⟨r.set j true, by rw [List.getElem?_set, if_pos rfl, if_pos (by rw [h.1]; exact ha)], by simp [h2], fun c hc => ?_⟩
  show _ = some (if a = a ∧ c = j then true else b a c)
  rw [List.getElem?_set]
  by_cases hcj : j = c
  ·subst hcj
   rw [if_pos rfl, if_pos (by omega), if_pos ⟨rfl, rfl⟩]
  ·rw [if_neg hcj, if_neg (by omega), h3 c hc]
 ·obtain ⟨r', h1, h2, h3⟩ := h.2 a ha
  refine ⟨r', by rw [List.getElem?_set, if_neg (by omega), h1], h2, fun c hc => ?_⟩
  show _ = some (if a = i ∧ c = j then true else b a c)
  rw [if_neg (by omega), h3 c hc]

end Pl
