/- The class of a vertex: what the search by breadth reaches. -/
import Derived.Test.YtcknmegldjnjjaaPsI
import Derived.Test.YtcknmegldjnjjaaVcA
set_option linter.unusedSimpArgs false
set_option linter.unusedVariables false
namespace Pl
open Sx Go M Vc

theorem kin_ok {l : List Int} {v : Int} (hl : l.length < 1000000) {Q : Bool → Prop} : Ret (sparsekit_In l v) Q = Q (decide (v ∈ l)) := by
  refine ret_of (Ret.eq ?_)
  unfold sparsekit_In
  simp only [ret_bind]
  refine ret_loop l.length (fun k (t : Int) => t = k ∧ v ∉ l.take k) (by simp) ?_
  intro k t hk hI
  unfold sparsekit_In_l1
  simp only [ret_bind, ret_if, ret_get, ret_some, vq_l, vq_r]
  grind [List.take_add_one, List.mem_iff_getElem?]

theorem rCheck_ok {adj : List (List Int)} (hG : Gr adj) (hn : adj.length ≤ 200) : sparseref12_Check adj = some 0 := by
  have hb := fun v l (h : adj[v]? = some l) => hG.len h
  refine Ret.eq ?_
  unfold sparseref12_Check
  rw [if_neg (by omega), ret_bind]
  refine ret_loop adj.length (fun k (t : Int) => t = k) rfl ?_
  rintro k t hk rfl
  unfold sparseref12_Check_l21
  simp only [ret_bind, ret_if, ret_get, ret_some, vq_l, vq_r, Int.toNat_natCast]
  refine ⟨fun h => ⟨by omega, h, fun l hl => ?_⟩, fun h => trivial⟩
  have hll := hb k l hl
  rw [ret_of (gAsc_ok (hG.asc k l hl) (by omega))]
  refine ⟨fun _ => ?_, fun h => absurd rfl h⟩
  refine ret_loop l.length (fun j (t : Int) => t = j) rfl ?_
  rintro j t hj rfl
  unfold sparseref12_Check_l28
  simp only [ret_bind, ret_if, ret_get, ret_some, vq_l, vq_r, Int.toNat_natCast]
  refine ⟨by omega, by omega, fun l' hl' => ?_⟩
  obtain rfl : l = l' := by rw [hl] at hl'; exact Option.some.inj hl'
  refine ⟨fun h2 => ⟨by omega, by omega, fun l' hl' => ?_⟩, fun h2 => ?_⟩
  · obtain rfl : l = l' := by rw [hl] at hl'; exact Option.some.inj hl'
    refine ⟨by omega, by omega, fun x hx => ?_⟩
    have hr := hG.rng k l x hl (List.mem_of_getElem? hx)
    obtain ⟨m, hm, hkm⟩ := hG.sym k l x hl (List.mem_of_getElem? hx)
    have hml := hb _ m hm
    refine ⟨fun h3 => ?_, fun h3 => ⟨hr.1, hr.2.1, fun m' hm' => ?_⟩⟩
    · simp at h3; omega
    · obtain rfl : m = m' := by rw [hm] at hm'; exact Option.some.inj hm'
      rw [kin_ok (by omega)]
      simp [hkm]
      rw [wa_i (by omega) (by omega)]
      omega
  · have : k < adj.length := by omega
    rw [wa_i (by omega) (by omega)]
    omega

theorem rLevels_ok {adj : List (List Int)} (hG : Gr adj) (hn : adj.length ≤ 12) {root : Nat} (hr : root < adj.length) : ∃ out lev seen, sparseref12_Levels adj (root : Int) = some out ∧ BF adj root lev seen out [] := by
  obtain ⟨out, lev, seen, h1, h2⟩ := rlevels_ok hG hn hr
  refine ⟨out, lev, seen, ?_, h2⟩
  unfold sparseref12_Levels
  rw [bindS (rCheck_ok hG (by omega)), if_neg (by simp; omega), bindS (mkL_nat false adj.length (by omega)), bindS (setI_lt (by simp; omega)), bindS h1]

structure CC (adj : List (List Int)) (root : Nat) (c : List Int) : Prop where
  asc : c.Pairwise (· < ·)
  rng : ∀ x, x ∈ c → 0 ≤ x ∧ x < adj.length
  mem : (root : Int) ∈ c
  clo : ∀ v w : Nat, (v : Int) ∈ c → nbp adj v w → (w : Int) ∈ c
  min : ∀ S : Nat → Prop, S root → (∀ v w, v < adj.length → S v → nbp adj v w → S w) → ∀ u : Nat, (u : Int) ∈ c → S u
  ref : ∃ out, sparseref12_Levels adj (root : Int) = some out ∧ out.flatten.Perm c

theorem BF.flat {adj : List (List Int)} {root : Nat} {lev : Nat → Nat} {seen : List Bool} {out : List (List Int)} (h : BF adj root lev seen out []) (x : Int) : x ∈ out.flatten ↔ 0 ≤ x ∧ x < adj.length ∧ lev x.toNat ≠ 0 := by
  rw [List.mem_flatten]
  constructor
  · rintro ⟨l, hl, hx⟩
    obtain ⟨k, hk⟩ := List.mem_iff_getElem?.1 hl
    have hkl := (List.getElem?_eq_some_iff.1 hk).1
    have h1 := h.lst k l (by rw [List.getElem?_append_left hkl]; exact hk)
    have h2 := h1.2.1 x hx
    have h3 := (h1.2.2 x.toNat (by omega)).1 (by rwa [show ((x.toNat : Nat) : Int) = x by omega])
    exact ⟨h2.1, h2.2, by omega⟩
  · rintro ⟨h1, h2, h3⟩
    have h4 := h.lev_le x.toNat (by omega)
    have hk : lev x.toNat - 1 < out.length := by omega
    refine ⟨out[lev x.toNat - 1], List.getElem_mem hk, ?_⟩
    have h5 := h.lst (lev x.toNat - 1) out[lev x.toNat - 1] (by rw [List.getElem?_append_left hk]; simp [hk])
    have h6 := (h5.2.2 x.toNat (by omega)).2 (by omega)
    rwa [show ((x.toNat : Nat) : Int) = x by omega] at h6
theorem BF.nodup {adj : List (List Int)} {root : Nat} {lev : Nat → Nat} {seen : List Bool} {out : List (List Int)} (h : BF adj root lev seen out []) : out.flatten.Nodup := by
  have hl : ∀ (k : Nat) (l : List Int), out[k]? = some l → l.Pairwise (· < ·) ∧ (∀ x, x ∈ l → 0 ≤ x ∧ x < adj.length) ∧ ∀ u : Nat, u < adj.length → ((u : Int) ∈ l ↔ lev u = k + 1) := fun k l hk =>
    h.lst k l (by rw [List.getElem?_append_left (List.getElem?_eq_some_iff.1 hk).1]; exact hk)
  rw [List.nodup_iff_pairwise_ne, List.pairwise_flatten]
  refine ⟨fun l hm => ?_, ?_⟩
  · obtain ⟨k, hk⟩ := List.mem_iff_getElem?.1 hm
    exact asc_nodup (hl k l hk).1
  · rw [List.pairwise_iff_getElem]
    intro i j hi hj hij x hx y hy hxy
    subst hxy
    have h1 := hl i _ (by simp [hi] : out[i]? = some out[i])
    have h2 := hl j _ (by simp [hj] : out[j]? = some out[j])
    have h3 := h1.2.1 x hx
    have h4 := (h1.2.2 x.toNat (by omega)).1 (by rwa [show ((x.toNat : Nat) : Int) = x by omega])
    have h5 := (h2.2.2 x.toNat (by omega)).1 (by rwa [show ((x.toNat : Nat) : Int) = x by omega])
    omega

theorem comp_ok {adj : List (List Int)} (hG : Gr adj) (hn : adj.length ≤ 12) {root : Nat} (hr : root < adj.length) :
    ∃ out c, graph_levels adj (root : Int) = some out ∧ slices_Concat_int out = some out.flatten ∧ slices_Sort_int out.flatten = some c ∧ CC adj root c := by
  obtain ⟨out, lev, seen, h1, h2⟩ := levels_ok hG hn hr
  obtain ⟨out', lev', seen', g1, g2⟩ := rLevels_ok hG hn hr
  obtain rfl := h2.out_eq g2
  have hfl : out.flatten.length ≤ adj.length := nodup_len _ _ h2.nodup fun x hx => by have := (h2.flat x).1 hx; exact ⟨this.1, this.2.1⟩
  obtain ⟨c, c1, c2, c3⟩ := sort_ok (l := out.flatten) (by omega)
  have hcnt := h2.count
  have hm : ∀ x, x ∈ c ↔ 0 ≤ x ∧ x < adj.length ∧ lev x.toNat ≠ 0 := fun x => by rw [c2.mem_iff]; exact h2.flat x
  refine ⟨out, c, h1, concat_ok (by omega) (by omega), c1, asc_of c3 (c2.nodup_iff.2 h2.nodup), fun x hx => ?_, ?_, fun v w hv hw => ?_, fun S hS hc u hu => ?_, ⟨out, g1, c2.symm⟩⟩
  · have := (hm x).1 hx; exact ⟨this.1, this.2.1⟩
  · rw [hm]
    have := (h2.rt root hr).2 rfl
    simp only [Int.toNat_natCast]
    omega
  · rw [hm] at hv ⊢
    simp only [Int.toNat_natCast] at hv ⊢
    have h3 := h2.edge v w (by omega) hw hv.2.2 (h2.lev_le v (by omega))
    obtain ⟨l, h5, h6⟩ := hw
    have h4 := hG.rng v l _ h5 h6
    exact ⟨h4.1, h4.2.1, h3.1⟩
  · have key : ∀ k, ∀ u : Nat, u < adj.length → lev u = k + 1 → S u := by
      intro k
      induction k with
      | zero => intro u hu h3; rw [(h2.rt u hu).1 h3]; exact hS
      | succ k ih =>
        intro u hu h3
        obtain ⟨w, h4, h5, h6⟩ := h2.back u hu (by omega)
        exact hc w u h4 (ih w h4 (by omega)) h5
    rw [hm] at hu
    simp only [Int.toNat_natCast] at hu
    exact key (lev u - 1) u (by omega) (by omega)
end Pl
