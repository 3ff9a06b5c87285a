/- One step of the search by breadth, whatever program makes it. -/
import Derived.Test.YthpeajepbffinaaGreatPsF
namespace Pl
open Sx Go M

theorem BF.stepA {adj : List (List Int)} (hG : Gr adj) {root : Nat} {lev : Nat → Nat} {seen : List Bool} {out : List (List Int)} {now : List Int} (h : BF adj root lev seen out now) (hne : now ≠ []) {m : List Int} (hasc : m.Pairwise (· < ·))
  (hmem : ∀ x, x ∈ m ↔ 0 ≤ x ∧ x < adj.length ∧ lev x.toNat = 0 ∧ ∃ v : Nat, (v : Int) ∈ now ∧ nbp adj v x.toNat) {seen' : List Bool} (hlen' : seen'.length = adj.length) (hsee : ∀ u : Nat, u < adj.length → seen'[u]? = some (decide (lev u ≠ 0 ∨ (u : Int) ∈ m))) :
  BF adj root (fun u => if (u : Int) ∈ m then out.length + 2 else lev u) seen' (out ++ [now]) m := by
 have hnow := h.lst out.length now (by simp)
 have k3 : ∀ v w : Nat, (v : Int) ∈ now → nbp adj v w → lev w ≠ 0 ∨ (w : Int) ∈ m := by
  intro v w hv hw
  by_cases h0 : lev w = 0
  ·obtain ⟨l, h1, h2⟩ := hw
   have h3 := hG.rng v l _ h1 h2
   exact .inr ((hmem _).2 ⟨h3.1, h3.2.1, by simpa using h0, v, hv, l, h1, by simpa using h2⟩)
  ·exact .inl h0
 have hin : ∀ u : Nat, (u : Int) ∈ m → u < adj.length ∧ lev u = 0 := fun u hu => by
  have := (hmem _).1 hu
  simp at this
  exact ⟨by omega, this.2.1⟩
 have hL : ∀ u : Nat, (u : Int) ∉ m → (if (u : Int) ∈ m then out.length + 2 else lev u) = lev u := fun u hu => if_neg hu
 have hM : ∀ u : Nat, (u : Int) ∈ m → (if (u : Int) ∈ m then out.length + 2 else lev u) = out.length + 2 := fun u hu => if_pos hu
 refine ⟨hlen', fun u hu => ?_, fun k l hk => ?_, fun u hu => ?_, fun l hl => ?_, fun u hu => ?_, fun v w hv hw h0 hle => ?_, fun u hu h2 => ?_⟩
 ·rw [hsee u hu]
  congr 1
  rw [decide_eq_decide]
  by_cases hm : (u : Int) ∈ m
  ·simp only [hM u hm]; simp [hm]
  ·simp only [hL u hm]
   constructor
   ·rintro (h1 | h1)
    ·exact h1
    ·exact absurd h1 hm
   ·exact .inl
 ·by_cases hk2 : k < (out ++ [now]).length
  ·rw [List.getElem?_append_left hk2] at hk
   have h1 := h.lst k l hk
   refine ⟨h1.1, h1.2.1, fun u hu => ?_⟩
   rw [h1.2.2 u hu]
   simp at hk2
   by_cases hm : (u : Int) ∈ m
   ·have hz := (hin u hm).2
    simp only [hM u hm]; omega
   ·simp only [hL u hm]
  ·rw [List.getElem?_append_right (by omega)] at hk
   have : k - (out ++ [now]).length = 0 ∧ l = m := by
    cases hkk : k - (out ++ [now]).length with
    | zero => rw [hkk] at hk; simp at hk; exact ⟨rfl, hk.symm⟩
    | succ j => rw [hkk] at hk; simp at hk
   obtain ⟨h4, rfl⟩ := this
   simp at h4 hk2
   refine ⟨hasc, fun x hx => ?_, fun u hu => ?_⟩
   ·have := (hmem x).1 hx; exact ⟨this.1, this.2.1⟩
   ·by_cases hm : (u : Int) ∈ l
    ·simp only [hm]; simp; omega
    ·have := h.top u hu
     simp only [hm]; simp; omega
 ·by_cases hm : (u : Int) ∈ m
  ·simp only [hM u hm]; simp
  ·have := h.top u hu
   simp only [hL u hm]; simp; omega
 ·rw [List.mem_append, List.mem_singleton] at hl
  rcases hl with hl | rfl
  ·exact h.ne l hl
  ·exact hne
 ·by_cases hm : (u : Int) ∈ m
  ·have h1 := h.rt u hu
   simp only [hM u hm]
   have := (hin u hm).2
   omega
  ·simp only [hL u hm]
   exact h.rt u hu
 ·by_cases hm : (v : Int) ∈ m
  ·simp only [hM v hm] at hle; simp at hle
  ·simp only [hL v hm] at h0 hle ⊢
   simp at hle
   by_cases hlv : lev v ≤ out.length
   ·have h1 := h.edge v w hv hw h0 hlv
    have hwm : (w : Int) ∉ m := fun hm2 => h1.1 (hin w hm2).2
    simp only [hL w hwm]
    exact h1
   ·have hvn : (v : Int) ∈ now := (hnow.2.2 v hv).2 (by omega)
    rcases k3 v w hvn hw with h1 | h1
    ·have hwm : (w : Int) ∉ m := fun hm2 => h1 (hin w hm2).2
     obtain ⟨l, h5, h6⟩ := hw
     have h7 := hG.rng v l _ h5 h6
     have := h.top w (by omega)
     simp only [hL w hwm]
     omega
    ·simp only [hM w h1]
     omega
 ·by_cases hm : (u : Int) ∈ m
  ·obtain ⟨_, _, _, v, h5, h6⟩ := (hmem _).1 hm
   have h7 := hnow.2.1 _ h5
   have h8 := (hnow.2.2 v (by omega)).1 h5
   have hvm : (v : Int) ∉ m := fun hm2 => by have := (hin v hm2).2; omega
   refine ⟨v, by omega, by simpa using h6, ?_⟩
   simp only [hM u hm, hL v hvm]
   omega
  ·simp only [hL u hm] at h2 ⊢
   obtain ⟨w, h5, h6, h7⟩ := h.back u hu h2
   have hwm : (w : Int) ∉ m := fun hm2 => by have := (hin w hm2).2; omega
   exact ⟨w, h5, h6, by simp only [hL w hwm]; exact h7⟩
end Pl
