/- The document's levels are the program's. (Under way.) -/
import Derived.Test.YthpeajepbffinaaGreatPsH
namespace Pl
open Sx Go M

open Classical in
theorem rstep_ok {adj : List (List Int)} (hG : Gr adj) (hn : adj.length ≤ 30) {root : Nat} {lev : Nat → Nat} {seen : List Bool} {out : List (List Int)} {now : List Int} (h : BF adj root lev seen out now) (hne : now ≠ []) :
  ∃ lev' seen' m, sparseref12_Levels_l73 adj (seen, now, out) = some (.inl (seen', m, out ++ [now])) ∧ BF adj root lev' seen' (out ++ [now]) m := by
 have hnow := h.lst out.length now (by simp)
 have hnl := asc_len hnow.1 hnow.2.1
 have hcnt := h.count
 have hpos := List.length_pos_iff.2 hne
 obtain ⟨t, t1, t2, t3⟩ := marks_ok hG hn hnow.2.1 (by omega) h.see
 obtain ⟨s, s1, s2, s3, s4⟩ := collect_ok hn h.len h.see t3
 have hmem : ∀ x, x ∈ s.2 ↔ 0 ≤ x ∧ x < adj.length ∧ lev x.toNat = 0 ∧ ∃ v : Nat, (v : Int) ∈ now ∧ nbp adj v x.toNat := by
  intro x
  rw [s3, coll_mem]
  constructor
  ·rintro ⟨h1, h2, h3, h4⟩
   exact ⟨h1, by omega, by simpa using h4, h3⟩
  ·rintro ⟨h1, h2, h3, h4⟩
   exact ⟨h1, by omega, h4, by simpa using h3⟩
 refine ⟨_, s.1, s.2, ?_, h.stepA hG hne (by rw [s3]; exact coll_asc _) hmem s2 fun u hu => ?_⟩
 ·unfold sparseref12_Levels_l73
  simp only
  rw [if_pos (by omega), bindS (app_small (by simp; omega)), bindS (mkL_nat false adj.length (by omega)), bindS t1, bindS s1]
 ·rw [s4 u hu]
  congr 1
  rw [decide_eq_decide, hmem]
  simp
  constructor
  ·rintro (h1 | ⟨⟨v, h1⟩, h2⟩)
   ·exact .inl h1
   ·exact .inr ⟨hu, h2, v, h1⟩
  ·rintro (h1 | ⟨_, h2, v, h1⟩)
   ·exact .inl h1
   ·exact .inr ⟨⟨v, h1⟩, h2⟩

theorem BF.start {adj : List (List Int)} {root : Nat} (hr : root < adj.length) : BF adj root (fun u => if u = root then 1 else 0) ((List.replicate adj.length false).set root true) [] [(root : Int)] := by
 refine ⟨by simp, fun u hu => ?_, fun k l hk => ?_, fun u hu => ?_, fun l hl => by simp at hl, fun u hu => ?_, fun v w hv hw h0 hle => ?_, fun u hu h2 => ?_⟩
 ·simp only [List.getElem?_set]
  by_cases h : root = u
  ·subst h; simp; omega
  ·rw [if_neg h]; simp [hu, show ¬ u = root by omega]
 ·have : k = 0 ∧ l = [(root : Int)] := by
   cases k with
   | zero => simp at hk; exact ⟨rfl, hk.symm⟩
   | succ k => simp at hk
  obtain ⟨rfl, rfl⟩ := this
  refine ⟨by simp, fun x hx => by simp at hx; omega, fun u hu => ?_⟩
  by_cases h : u = root
  ·subst h; simp
  ·simp [h]; omega
 ·split <;> simp
 ·by_cases h : u = root
  ·simp [h]
  ·simp [h]
 ·simp at hle
  exact absurd hle (by simpa using h0)
 ·split at h2 <;> omega

theorem rlevels_ok {adj : List (List Int)} (hG : Gr adj) (hn : adj.length ≤ 30) {root : Nat} (hr : root < adj.length) : ∃ out lev seen, (loop (sparseref12_Levels_l73 adj) ((List.replicate adj.length false).set root true, [(root : Int)], [])) = some out ∧ BF adj root lev seen out [] := by
 obtain ⟨o, h1, h2⟩ := whileG (step := sparseref12_Levels_l73 adj) (s := ((List.replicate adj.length false).set root true, [(root : Int)], []))
  (fun s => ∃ lev, BF adj root lev s.1 s.2.2 s.2.1) (fun o => ∃ lev seen, BF adj root lev seen o []) (fun s => (adj.length + 1 - s.2.2.length) * 2 + s.2.1.length.min 1)
  ⟨_, BF.start hr⟩ (by simp only; simp; omega) (by
   rintro ⟨seen, now, out⟩ ⟨lev, hB⟩
   simp only at hB
   by_cases hne : now = []
   ·subst hne
    refine .inr ⟨out, ?_, lev, seen, hB⟩
    unfold sparseref12_Levels_l73
    simp
   ·obtain ⟨lev', seen', m, k1, k2⟩ := rstep_ok hG hn hB hne
    have hc := k2.count
    refine .inl ⟨_, k1, ⟨lev', k2⟩, ?_⟩
    have hpos := List.length_pos_iff.2 hne
    simp only [List.length_append, List.length_singleton] at hc ⊢
    have : m.length.min 1 ≤ 1 := Nat.min_le_right _ _
    have : now.length.min 1 = 1 := Nat.min_eq_right hpos
    omega)
 obtain ⟨lev, seen, h⟩ := h2
 exact ⟨o, lev, seen, h1, h⟩

theorem BF.out_eq {adj : List (List Int)} {root : Nat} {lev lev' : Nat → Nat} {seen seen' : List Bool} {out out' : List (List Int)} (h : BF adj root lev seen out []) (h' : BF adj root lev' seen' out' []) : out = out' := by
 have key : ∀ (lev lev' : Nat → Nat) (seen seen' : List Bool) (out out' : List (List Int)), BF adj root lev seen out [] → BF adj root lev' seen' out' [] → ∀ (k : Nat) (l : List Int), out[k]? = some l → out'[k]? = some l := by
  intro lev lev' seen seen' out out' h h' k l hk
  have hkl := (List.getElem?_eq_some_iff.1 hk).1
  have h1 := h.lst k l (by rw [List.getElem?_append_left hkl]; exact hk)
  have hne := h.ne l (List.mem_of_getElem? hk)
  obtain ⟨x, hx⟩ := List.exists_mem_of_ne_nil _ hne
  have hx2 := h1.2.1 x hx
  have hlx := (h1.2.2 x.toNat (by omega)).1 (by rwa [show ((x.toNat : Nat) : Int) = x by omega])
  have hlx' := h.lev_eq h' x.toNat (by omega)
  have hle := h'.lev_le x.toNat (by omega)
  have hk' : k < out'.length := by omega
  have hg' : out'[k]? = some out'[k] := by simp [hk']
  have h2 := h'.lst k _ (by rw [List.getElem?_append_left hk']; exact hg')
  rw [hg']
  congr 1
  refine asc_unique h2.1 h1.1 fun y => ?_
  constructor
  ·intro hy
   have h3 := h2.2.1 y hy
   have h4 := (h2.2.2 y.toNat (by omega)).1 (by rwa [show ((y.toNat : Nat) : Int) = y by omega])
   have h5 := h.lev_eq h' y.toNat (by omega)
   have h6 := (h1.2.2 y.toNat (by omega)).2 (by omega)
   rwa [show ((y.toNat : Nat) : Int) = y by omega] at h6
  ·intro hy
   have h3 := h1.2.1 y hy
   have h4 := (h1.2.2 y.toNat (by omega)).1 (by rwa [show ((y.toNat : Nat) : Int) = y by omega])
   have h5 := h.lev_eq h' y.toNat (by omega)
   have h6 := (h2.2.2 y.toNat (by omega)).2 (by omega)
   rwa [show ((y.toNat : Nat) : Int) = y by omega] at h6
 apply List.ext_getElem?
 intro k
 cases hk : out[k]? with
 | some l => exact (key lev lev' seen seen' out out' h h' k l hk).symm
 | none =>
  cases hk' : out'[k]? with
  | none => rfl
  | some l =>
   have := key lev' lev seen' seen out' out h' h k l hk'
   rw [hk] at this; cases this
end Pl
