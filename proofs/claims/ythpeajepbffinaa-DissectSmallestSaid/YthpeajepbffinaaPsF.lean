/- The document's levels: the marked are collected. (Under way.) -/
import Derived.Test.YthpeajepbffinaaPsE
namespace Pl
open Sx Go M

def coll (tm : Nat → Prop) [DecidablePred tm] : Nat → List Int
 | 0 => []
 | m + 1 => coll tm m ++ (if tm m then [(m : Int)] else [])
theorem coll_mem {tm : Nat → Prop} [DecidablePred tm] {x : Int} : ∀ m, x ∈ coll tm m ↔ 0 ≤ x ∧ x.toNat < m ∧ tm x.toNat := by
 intro m
 induction m with
 | zero => simp [coll]
 | succ m ih =>
  rw [coll, List.mem_append, ih]
  constructor
  ·rintro (h | h)
   ·exact ⟨h.1, by omega, h.2.2⟩
   ·split at h
    ·rename_i hc
     simp only [List.mem_singleton] at h; subst h
     exact ⟨by omega, by omega, by simpa using hc⟩
    ·simp at h
  ·rintro ⟨h1, h2, h3⟩
   by_cases hx : x.toNat = m
   ·right
    rw [hx] at h3
    rw [if_pos h3]
    simp; omega
   ·exact .inl ⟨h1, by omega, h3⟩
theorem coll_asc {tm : Nat → Prop} [DecidablePred tm] : ∀ m, (coll tm m).Pairwise (· < ·) := by
 intro m
 induction m with
 | zero => exact .nil
 | succ m ih =>
  rw [coll, List.pairwise_append]
  refine ⟨ih, ?_, ?_⟩
  ·split <;> simp
  ·intro x hx y hy
   have := (coll_mem m).1 hx
   split at hy
   ·simp at hy; omega
   ·simp at hy
theorem coll_len {tm : Nat → Prop} [DecidablePred tm] : ∀ m, (coll tm m).length ≤ m := by
 intro m
 induction m with
 | zero => simp [coll]
 | succ m ih => rw [coll, List.length_append]; split <;> simp <;> omega

end Pl
