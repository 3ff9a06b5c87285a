/- Orders; that nothing stands twice. -/
import Derived.Test.YtcknmegldjnjjaaPtD
set_option linter.unusedSimpArgs false
set_option linter.unusedVariables false
namespace Pl
open Sx Go M Vc

/-- a permutation of 0 to n - 1 -/
structure Pm (l : List Int) (n : Nat) : Prop where
  len : l.length = n
  nd : l.Nodup
  rng : ∀ x, x ∈ l → 0 ≤ x ∧ x < (n : Int)

/-- whether an element stands twice, by the library's sort and compaction -/
theorem compact_iff {m : List Int} (hs : m.Pairwise (· ≤ ·)) : (Go.Lib.compact m).length < m.length ↔ ¬ m.Nodup := by
  have hlen : (Go.Lib.compact m).length = ((List.range m.length).filter (Go.Lib.keeps m.toArray)).length := by
    unfold Go.Lib.compact Go.Lib.compactUpTo
    rw [List.length_map]
  have hk : ∀ j, j < m.length → (Go.Lib.keeps m.toArray j = true ↔ j = 0 ∨ m[j]! ≠ m[j - 1]!) := by
    intro j hj
    unfold Go.Lib.keeps
    simp
  constructor
  · intro h hn
    have hasc := asc_of hs hn
    have hall : ∀ j, j < m.length → Go.Lib.keeps m.toArray j = true := by
      intro j hj
      rw [hk j hj]
      by_cases h0 : j = 0
      · exact .inl h0
      · right
        have := asc_get hasc hj (i := j - 1) (by omega)
        rw [getElem!_pos m j hj, getElem!_pos m (j - 1) (by omega)]
        omega
    have := Go.Lib.compact_all m hall
    rw [this] at h
    omega
  · intro hn
    have hex : ∃ j, j < m.length ∧ Go.Lib.keeps m.toArray j ≠ true := by
      refine Classical.byContradiction fun hno => hn ?_
      have hall : ∀ j (hj : j + 1 < m.length), m[j] < m[j + 1] := by
        intro j hj
        have h1 : Go.Lib.keeps m.toArray (j + 1) = true := Classical.byContradiction fun h => hno ⟨j + 1, hj, h⟩
        rw [hk _ hj] at h1
        have h2 := h1.resolve_left (by omega)
        rw [getElem!_pos m (j + 1) hj, getElem!_pos m (j + 1 - 1) (by omega)] at h2
        have h3 := List.pairwise_iff_getElem.1 hs j (j + 1) (by omega) hj (by omega)
        have h4 : m[j + 1 - 1] = m[j] := by congr 1
        omega
      have hlt : ∀ d i (h : i + 1 + d < m.length), m[i] < m[i + 1 + d] := by
        intro d
        induction d with
        | zero => intro i h; exact hall i h
        | succ d ih =>
          intro i h
          have h1 := ih i (by omega)
          have h2 := hall (i + 1 + d) (by omega)
          have h3 : m[i + 1 + (d + 1)] = m[i + 1 + d + 1] := by congr 1
          omega
      rw [List.nodup_iff_pairwise_ne, List.pairwise_iff_getElem]
      intro i j hi hj hij
      have := hlt (j - i - 1) i (by omega)
      have h3 : m[i + 1 + (j - i - 1)]'(by omega) = m[j] := by congr 1; omega
      omega
    obtain ⟨j, hj, hkj⟩ := hex
    rw [hlen]
    have h1 := List.length_filter_lt_length_iff_exists.2 (⟨j, List.mem_range.2 hj, hkj⟩ : ∃ x, x ∈ List.range m.length ∧ ¬ Go.Lib.keeps m.toArray x = true)
    simpa using h1

theorem twice_e {l : List Int} (hl : l.length ≤ 100000) : graph_twice l = some (decide (¬ l.Nodup)) := by
  have hp := isortI_perm l
  have hs := isortI_sorted l
  have hlen := hp.length_eq
  have h1 := compact_iff hs
  rw [hlen, hp.nodup_iff] at h1
  have e1 : sortI l = some (isortI l) := by unfold sortI BIG; rw [if_pos (by omega)]
  have e2 : compactI (isortI l) = some (Go.Lib.compact (isortI l)) := by unfold compactI BIG; rw [if_pos (by omega)]
  have e3 : colV l = some l := by unfold colV BIG; rw [if_pos (by omega)]
  unfold graph_twice slices_Values_int slices_Sorted_int slices_Collect_int
  simp only [obs, e1, e2, e3]
  congr 1
  rw [decide_eq_decide, ← h1]
  omega
theorem twice_ok {l : List Int} {n : Nat} (hn : n ≤ 12) (h : Pm l n) : graph_twice l = some false := by
  rw [twice_e (by have := h.len; omega), decide_eq_false (fun hh => hh h.nd)]
end Pl
