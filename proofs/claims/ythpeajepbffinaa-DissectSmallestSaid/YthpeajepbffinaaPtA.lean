/- Ascending lists; appending all lists. -/
import Derived.Test.YthpeajepbffinaaPsB
import Derived.Test.YthpeajepbffinaaVcA
set_option linter.unusedSimpArgs false
set_option linter.unusedVariables false
namespace Pl
open Sx Go M Vc

theorem asc_nodup {l : List Int} (h : l.Pairwise (· < ·)) : l.Nodup := by
 refine List.Pairwise.imp ?_ h
 intro a b hab; omega

theorem grow_ok {n : Nat} (hn : n ≤ 1000000) : slices_Grow_int (n : Int) = some [] := by
 have h0 : ws .i64 0 0 = 0 := by rw [ws_in (by constructor <;> omega)]; rfl
 have h1 : ws .i64 (n : Int) 0 = (n : Int) := by rw [ws_in (by constructor <;> omega)]; omega
 unfold slices_Grow_int slices_Grow_int_j1 slices_Grow_int_j2
 rw [if_neg (by omega), h0, h1]
 by_cases hp : (0 : Int) < (n : Int)
 ·rw [if_pos hp]
  unfold mkLp
  rw [if_pos hp, bindS (mkL_nat 0 n (by omega))]
  have : sli (List.replicate n (0 : Int)) 0 0 = some [] := by
   unfold sli; rw [if_pos (by simp)]; simp [subL]
  rw [bindS this]
 ·rw [if_neg hp]
theorem take_flatten_le (ls : List (List Int)) (k : Nat) : (ls.take k).flatten.length ≤ ls.flatten.length := by
 conv => rhs; rw [← List.take_append_drop k ls]
 rw [List.flatten_append, List.length_append]; omega
theorem take_succ2 {ls : List (List Int)} {k : Nat} (h : k < ls.length) : (ls.take (k + 1)).flatten = (ls.take k).flatten ++ ls[k] := by
 rw [take_succ' h, List.flatten_append, List.flatten_cons, List.flatten_nil, List.append_nil]
theorem concat_ok {ls : List (List Int)} (hl : ls.length ≤ 1000) (hf : ls.flatten.length ≤ 1000) : slices_Concat_int ls = some ls.flatten := by
 unfold slices_Concat_int
 obtain ⟨o, h1, h2⟩ := forG (step := slices_Concat_int_l3 ls) (fun k (s : Int) => (s, (k : Int))) ls.length (by omega) (fun k s => s = ((ls.take k).flatten.length : Int)) (fun o => o = (ls.flatten.length : Int)) (s0 := 0) (by simp) (by
  intro k s hk hI
  subst hI
  have h3 := take_flatten_le ls (k + 1)
  rw [take_succ2 hk, List.length_append] at h3
  unfold slices_Concat_int_l3 slices_Concat_int_j5
  simp only
  rw [if_pos (by omega), bindS (getI_lt hk), wa_in (by constructor <;> omega), if_neg (by omega), wa1 (by omega)]
  exact .inl ⟨_, rfl, by rw [take_succ2 hk, List.length_append]; omega⟩) (by
  intro s hI
  subst hI
  unfold slices_Concat_int_l3
  simp only
  rw [if_neg (by omega)]
  exact ⟨_, rfl, by rw [List.take_of_length_le (Nat.le_refl _)]⟩)
 have h1' : loop (slices_Concat_int_l3 ls) (0, 0) = some o := h1
 rw [bindS h1', h2, bindS (grow_ok (by omega))]
 obtain ⟨o, h1, h2⟩ := forG (step := slices_Concat_int_l4 ls) (fun k (s : List Int) => (s, (k : Int))) ls.length (by omega) (fun k s => s = (ls.take k).flatten) (fun o => o = ls.flatten) (s0 := []) (by simp) (by
  intro k s hk hI
  subst hI
  have h3 := take_flatten_le ls (k + 1)
  rw [take_succ2 hk, List.length_append] at h3
  unfold slices_Concat_int_l4
  simp only
  rw [if_pos (by omega), bindS (getI_lt hk), bindS (app_small (by omega)), wa1 (by omega)]
  exact .inl ⟨_, rfl, by rw [take_succ2 hk]⟩) (by
  intro s hI
  subst hI
  unfold slices_Concat_int_l4
  simp only
  rw [if_neg (by omega)]
  exact ⟨_, rfl, by rw [List.take_of_length_le (Nat.le_refl _)]⟩)
 have h1' : loop (slices_Concat_int_l4 ls) ([], 0) = some o := h1
 rw [bindS h1', h2]
theorem BF.lev_le {adj : List (List Int)} {root : Nat} {lev : Nat → Nat} {seen : List Bool} {out : List (List Int)} (h : BF adj root lev seen out []) (u : Nat) (hu : u < adj.length) : lev u ≤ out.length := by
 have h1 := h.top u hu
 have h2 := (h.lst out.length [] (by simp)).2.2 u hu
 simp at h2
 omega
end Pl
