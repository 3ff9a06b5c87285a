/- Place: a number below a bound; lists without repeats. (For seats without the texts of the forests.) -/
import Derived.Test.YtgnfkbaghjmgiaaGreatPlA
import Derived.Test.YtgnfkbaghjmgiaaGreatM5
namespace Pl
open Sx Go M

theorem nodup_inj {L : List Int} (h : L.Nodup) {i j : Nat} {hi : i < L.length} {hj : j < L.length} (he : L[i] = L[j]) : i = j := by
  have h1 := List.pairwise_iff_getElem.1 h
  by_cases hij : i = j
  · exact hij
  · rcases Nat.lt_or_gt_of_ne hij with h2 | h2
    · exact absurd he (h1 i j hi hj h2)
    · exact absurd he.symm (h1 j i hj hi h2)
theorem nodup_take {L : List Int} (h : L.Nodup) {k : Nat} (hk : k < L.length) : L[k] ∉ L.take k := by
  intro hm
  rw [List.mem_iff_getElem] at hm
  obtain ⟨i, hi, he⟩ := hm
  rw [List.getElem_take] at he
  have := nodup_inj h he
  simp at hi
  omega

end Pl
