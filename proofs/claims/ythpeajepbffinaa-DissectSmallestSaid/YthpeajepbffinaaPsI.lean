/- The document's levels are the program's. (Under way.) -/
import Derived.Test.YthpeajepbffinaaPsH
namespace Pl
open Sx Go M

theorem BF.start {adj : List (List Int)} {root : Nat} (hr : root < adj.length) : BF adj root (fun u => if u = root then 1 else 0) ((List.replicate adj.length false).set root true) [] [(root : Int)] := by
 refine ⟨by simp, fun u hu => ?_, fun k l hk => ?_, fun u hu => ?_, fun l hl => by simp at hl, fun u hu => ?_, fun v w hv hw h0 hle => ?_, fun u hu h2 => ?_⟩
 ·simp only [List.getElem?_set]
  by_cases h : root = u
  ·subst h; simp; omega
  ·rw [if_neg h]; simp [hu, show ¬ u = root by omega]
 ·have : k = 0 ∧ l = [(root : Int)] := by
   cases k with
   | zero => simp at hk; exact ⟨rfl, hk.symm⟩
   | succ k => simp at hk
  obtain ⟨rfl, rfl⟩ := this
  refine ⟨by simp, fun x hx => by simp at hx; omega, fun u hu => ?_⟩
  by_cases h : u = root
  ·subst h; simp
  ·simp [h]; omega
 ·split <;> simp
 ·by_cases h : u = root
  ·simp [h]
  ·simp [h]
 ·simp at hle
  exact absurd hle (by simpa using h0)
 ·split at h2 <;> omega

end Pl
