/- The document's levels: the marked are collected. (Under way.) -/
import Derived.Test.YthpeajepbffinaaGreatPsE
namespace Pl
open Sx Go M

def coll (tm : Nat → Prop) [DecidablePred tm] : Nat → List Int
 | 0 => []
 | m + 1 => coll tm m ++ (if tm m then [(m : Int)] else [])
theorem coll_mem {tm : Nat → Prop} [DecidablePred tm] {x : Int} : ∀ m, x ∈ coll tm m ↔ 0 ≤ x ∧ x.toNat < m ∧ tm x.toNat := by
 intro m
 induction m with
 | zero => simp [coll]
 | succ m ih =>
  rw [coll, List.mem_append, ih]
  constructor
  ·rintro (h | h)
   ·exact ⟨h.1, by omega, h.2.2⟩
   ·split at h
    ·rename_i hc
     simp only [List.mem_singleton] at h; subst h
     exact ⟨by omega, by omega, by simpa using hc⟩
    ·simp at h
  ·rintro ⟨h1, h2, h3⟩
   by_cases hx : x.toNat = m
   ·right
    rw [hx] at h3
    rw [if_pos h3]
    simp; omega
   ·exact .inl ⟨h1, by omega, h3⟩
theorem coll_asc {tm : Nat → Prop} [DecidablePred tm] : ∀ m, (coll tm m).Pairwise (· < ·) := by
 intro m
 induction m with
 | zero => exact .nil
 | succ m ih =>
  rw [coll, List.pairwise_append]
  refine ⟨ih, ?_, ?_⟩
  ·split <;> simp
  ·intro x hx y hy
   have := (coll_mem m).1 hx
   split at hy
   ·simp at hy; omega
   ·simp at hy
theorem coll_len {tm : Nat → Prop} [DecidablePred tm] : ∀ m, (coll tm m).length ≤ m := by
 intro m
 induction m with
 | zero => simp [coll]
 | succ m ih => rw [coll, List.length_append]; split <;> simp <;> omega

theorem collect_ok {adj : List (List Int)} (hn : adj.length ≤ 30) {seen t : List Bool} {sv tm : Nat → Prop} [DecidablePred sv] [DecidablePred tm] (hs : seen.length = adj.length) (hg : ∀ u : Nat, u < adj.length → seen[u]? = some (decide (sv u))) (ht : ∀ u : Nat, u < adj.length → t[u]? = some (decide (tm u))) :
  ∃ s : List Bool × List Int, loop (sparseref12_Levels_l97 adj t) (seen, [], 0) = some s ∧ s.1.length = adj.length ∧ s.2 = coll tm adj.length ∧ ∀ u : Nat, u < adj.length → s.1[u]? = some (decide (sv u ∨ tm u)) := by
 obtain ⟨o, h1, h2⟩ := forG (step := sparseref12_Levels_l97 adj t) (fun k (s : List Bool × List Int) => (s.1, s.2, (k : Int))) adj.length (by omega)
  (fun k s => s.1.length = adj.length ∧ s.2 = coll tm k ∧ ∀ u : Nat, u < adj.length → s.1[u]? = some (decide (sv u ∨ (u < k ∧ tm u))))
  (fun s => s.1.length = adj.length ∧ s.2 = coll tm adj.length ∧ ∀ u : Nat, u < adj.length → s.1[u]? = some (decide (sv u ∨ tm u))) (s0 := (seen, [])) ⟨hs, rfl, fun u hu => by rw [hg u hu]; simp⟩ (by
   rintro k ⟨s, nx⟩ hk ⟨hsl, hnx, hsg⟩
   simp only at hsl hnx hsg
   subst hnx
   have hlen := coll_len (tm := tm) k
   have htk : getI t (k : Int) = some (decide (tm k)) := ht k hk
   unfold sparseref12_Levels_l97 sparseref12_Levels_j98
   simp only
   rw [if_pos (by omega), bindS htk]
   by_cases hc : tm k
   ·rw [if_pos (by simpa using hc), bindS (app_small (by simp; omega)), bindS (setI_lt (by omega)), wa1 (by omega)]
    refine .inl ⟨(s.set k true, coll tm k ++ [(k : Int)]), rfl, by simp [hsl], by simp only; rw [coll, if_pos hc], fun u hu => ?_⟩
    simp only
    rw [List.getElem?_set]
    by_cases hku : k = u
    ·subst hku
     rw [if_pos rfl, if_pos (by omega)]; simp [hc]
    ·rw [if_neg hku, hsg u hu]
     congr 1
     rw [decide_eq_decide]
     constructor
     ·exact fun h => h.imp id fun h => ⟨by omega, h.2⟩
     ·exact fun h => h.imp id fun h => ⟨by omega, h.2⟩
   ·rw [if_neg (by simpa using hc), wa1 (by omega)]
    refine .inl ⟨(s, coll tm k), rfl, hsl, by simp only; rw [coll, if_neg hc, List.append_nil], fun u hu => ?_⟩
    simp only
    rw [hsg u hu]
    congr 1
    rw [decide_eq_decide]
    constructor
    ·exact fun h => h.imp id fun h => ⟨by omega, h.2⟩
    ·rintro (h | ⟨h, h'⟩)
     ·exact .inl h
     ·by_cases hku : u = k
      ·subst hku; exact absurd h' hc
      ·exact .inr ⟨by omega, h'⟩) (by
   rintro ⟨s, nx⟩ ⟨hsl, hnx, hsg⟩
   simp only at hsl hnx hsg
   unfold sparseref12_Levels_l97
   simp only
   rw [if_neg (by omega)]
   refine ⟨_, rfl, hsl, hnx, fun u hu => ?_⟩
   rw [hsg u hu]
   congr 1
   rw [decide_eq_decide]
   exact ⟨fun h => h.imp id (·.2), fun h => h.imp id fun h => ⟨hu, h⟩⟩)
 exact ⟨o, h1, h2⟩
end Pl
