/- The class of a vertex: what the search by breadth reaches. -/
import Derived.Test.YthpeajepbffinaaPtA
set_option linter.unusedSimpArgs false
set_option linter.unusedVariables false
namespace Pl
open Sx Go M Vc

structure CC (adj : List (List Int)) (root : Nat) (c : List Int) : Prop where
 asc : c.Pairwise (· < ·)
 rng : ∀ x, x ∈ c → 0 ≤ x ∧ x < adj.length
 mem : (root : Int) ∈ c
 clo : ∀ v w : Nat, (v : Int) ∈ c → nbp adj v w → (w : Int) ∈ c
 min : ∀ S : Nat → Prop, S root → (∀ v w, v < adj.length → S v → nbp adj v w → S w) → ∀ u : Nat, (u : Int) ∈ c → S u

theorem BF.flat {adj : List (List Int)} {root : Nat} {lev : Nat → Nat} {seen : List Bool} {out : List (List Int)} (h : BF adj root lev seen out []) (x : Int) : x ∈ out.flatten ↔ 0 ≤ x ∧ x < adj.length ∧ lev x.toNat ≠ 0 := by
 rw [List.mem_flatten]
 constructor
 ·rintro ⟨l, hl, hx⟩
  obtain ⟨k, hk⟩ := List.mem_iff_getElem?.1 hl
  have hkl := (List.getElem?_eq_some_iff.1 hk).1
  have h1 := h.lst k l (by rw [List.getElem?_append_left hkl]; exact hk)
  have h2 := h1.2.1 x hx
  have h3 := (h1.2.2 x.toNat (by omega)).1 (by rwa [show ((x.toNat : Nat) : Int) = x by omega])
  exact ⟨h2.1, h2.2, by omega⟩
 ·rintro ⟨h1, h2, h3⟩
  have h4 := h.lev_le x.toNat (by omega)
  have hk : lev x.toNat - 1 < out.length := by omega
  refine ⟨out[lev x.toNat - 1], List.getElem_mem hk, ?_⟩
  have h5 := h.lst (lev x.toNat - 1) out[lev x.toNat - 1] (by rw [List.getElem?_append_left hk]; simp [hk])
  have h6 := (h5.2.2 x.toNat (by omega)).2 (by omega)
  rwa [show ((x.toNat : Nat) : Int) = x by omega] at h6
theorem BF.nodup {adj : List (List Int)} {root : Nat} {lev : Nat → Nat} {seen : List Bool} {out : List (List Int)} (h : BF adj root lev seen out []) : out.flatten.Nodup := by
 have hl : ∀ (k : Nat) (l : List Int), out[k]? = some l → l.Pairwise (· < ·) ∧ (∀ x, x ∈ l → 0 ≤ x ∧ x < adj.length) ∧ ∀ u : Nat, u < adj.length → ((u : Int) ∈ l ↔ lev u = k + 1) := fun k l hk =>
  h.lst k l (by rw [List.getElem?_append_left (List.getElem?_eq_some_iff.1 hk).1]; exact hk)
 rw [List.nodup_iff_pairwise_ne, List.pairwise_flatten]
 refine ⟨fun l hm => ?_, ?_⟩
 ·obtain ⟨k, hk⟩ := List.mem_iff_getElem?.1 hm
  exact asc_nodup (hl k l hk).1
 ·rw [List.pairwise_iff_getElem]
  intro i j hi hj hij x hx y hy hxy
  subst hxy
  have h1 := hl i _ (by simp [hi] : out[i]? = some out[i])
  have h2 := hl j _ (by simp [hj] : out[j]? = some out[j])
  have h3 := h1.2.1 x hx
  have h4 := (h1.2.2 x.toNat (by omega)).1 (by rwa [show ((x.toNat : Nat) : Int) = x by omega])
  have h5 := (h2.2.2 x.toNat (by omega)).1 (by rwa [show ((x.toNat : Nat) : Int) = x by omega])
  omega

theorem comp_ok {adj : List (List Int)} (hG : Gr adj) (hn : adj.length ≤ 30) {root : Nat} (hr : root < adj.length) :
  ∃ out c, graph_levels adj (root : Int) = some out ∧ slices_Concat_int out = some out.flatten ∧ sortI out.flatten = some c ∧ CC adj root c := by
 obtain ⟨out, lev, seen, h1, h2⟩ := levels_ok hG hn hr
 have hfl : out.flatten.length ≤ adj.length := nodup_len _ _ h2.nodup fun x hx => by have := (h2.flat x).1 hx; exact ⟨this.1, this.2.1⟩
 obtain ⟨c, c1, c2, c3⟩ := sort_ok (l := out.flatten) (by omega)
 have hcnt := h2.count
 have hm : ∀ x, x ∈ c ↔ 0 ≤ x ∧ x < adj.length ∧ lev x.toNat ≠ 0 := fun x => by rw [c2.mem_iff]; exact h2.flat x
 refine ⟨out, c, h1, concat_ok (by omega) (by omega), c1, asc_of c3 (c2.nodup_iff.2 h2.nodup), fun x hx => ?_, ?_, fun v w hv hw => ?_, fun S hS hc u hu => ?_⟩
 ·have := (hm x).1 hx; exact ⟨this.1, this.2.1⟩
 ·rw [hm]
  have := (h2.rt root hr).2 rfl
  simp only [Int.toNat_natCast]
  omega
 ·rw [hm] at hv ⊢
  simp only [Int.toNat_natCast] at hv ⊢
  have h3 := h2.edge v w (by omega) hw hv.2.2 (h2.lev_le v (by omega))
  obtain ⟨l, h5, h6⟩ := hw
  have h4 := hG.rng v l _ h5 h6
  exact ⟨h4.1, h4.2.1, h3.1⟩
 ·have key : ∀ k, ∀ u : Nat, u < adj.length → lev u = k + 1 → S u := by
   intro k
   induction k with
   | zero => intro u hu h3; rw [(h2.rt u hu).1 h3]; exact hS
   | succ k ih =>
    intro u hu h3
    obtain ⟨w, h4, h5, h6⟩ := h2.back u hu (by omega)
    exact hc w u h4 (ih w h4 (by omega)) h5
  rw [hm] at hu
  simp only [Int.toNat_natCast] at hu
  exact key (lev u - 1) u (by omega) (by omega)
end Pl
