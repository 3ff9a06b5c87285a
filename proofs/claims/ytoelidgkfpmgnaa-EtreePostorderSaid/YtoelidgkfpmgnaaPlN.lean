/- The law of the ancestors over the models. -/
import Derived.Test.YtoelidgkfpmgnaaPlM
namespace Pl
open Sx Go M

theorem Up.cases {par : List Int} {u a : Nat} (h : Up par u a) : u = a ∨ ∃ q : Nat, par[u]? = some (q : Int) ∧ Up par q a := by
  obtain ⟨k, hk⟩ := h
  cases k with
  | zero => exact .inl hk
  | succ k => obtain ⟨q, h1, h2⟩ := hk; exact .inr ⟨q, h1, k, h2⟩
theorem Fo.inc {par : List Int} (hF : Fo par) (u : Nat) (p : Int) (h : par[u]? = some p) : p = -1 ∨ (u : Int) < p :=
  (hF u (List.getElem?_eq_some_iff.1 h).1 p h).imp id (·.1)

theorem climb_ok {par : List Int} (hF : Fo par) (hn : par.length ≤ 200) {v w : Nat} (h : Up par v w) (hw : w < par.length) : loop (sparselaw19_EtreeAncestors_l175 (w : Int) (par, 0)) (v : Int) = some (w : Int) := by
  obtain ⟨o, h1, h2⟩ := whileG (step := sparselaw19_EtreeAncestors_l175 (w : Int) (par, 0)) (s := (v : Int)) (fun s => ∃ u : Nat, s = (u : Int) ∧ Up par u w) (fun o => o = (w : Int)) (fun s => (w - s).toNat) ⟨v, rfl, h⟩ (by omega) (by
    rintro s ⟨u, rfl, hu⟩
    have hle := hu.le hF.inc
    unfold sparselaw19_EtreeAncestors_l175
    by_cases hc : u < w
    · rw [if_pos (by simp; omega)]
      rcases hu.cases with h3 | ⟨q, h3, h4⟩
      · omega
      · have hgI : getI par (u : Int) = some (q : Int) := h3
        rw [bindS hgI]
        have := hF.inc u q h3
        have := h4.le hF.inc
        exact .inl ⟨_, rfl, ⟨q, rfl, h4⟩, by omega⟩
    · rw [if_neg (by simp; omega)]
      exact .inr ⟨_, rfl, by omega⟩)
  rw [h1, h2]

theorem etreeAncestors_true (x : Int) (x2 : List Int) : sparselaw19_EtreeAncestors x x2 = some true := by
  unfold sparselaw19_EtreeAncestors
  by_cases hc : (80 : Int) < (x2.length : Int)
  · rw [if_pos hc, awake19]; rfl
  · rw [if_neg hc]
    obtain ⟨n, hp, hn⟩ := place_ok x 13 (by omega) (by omega)
    have hp' : sparsekit_Place x 13 = some (n : Int) := hp
    obtain ⟨b, hb⟩ := graph_ok (n := n) (by omega) x2 (by omega)
    have hG := nbr_gr b n
    have hadjl : ((List.range n).map fun k => nbr b k n).length = n := by simp
    generalize hadj : ((List.range n).map fun k => nbr b k n) = adj at hb hG hadjl
    subst hadjl
    obtain ⟨par, h1, h2, hF, hE, _⟩ := parent_ok hG (by omega) (fun _ => True) trivial (fun _ _ _ _ _ _ _ _ _ _ _ _ _ _ _ => trivial)
    have c1 : etree_Check par = some 0 := by
      rcases check_e par (by omega) with h | h
      · exact h.1
      · exact absurd hF h.2
    have c2 : sparseref19_Check par = some 0 := by
      rcases check_r par (by omega) with h | h
      · exact h.1
      · exact absurd hF h.2
    rw [bindS hp', bindS hb, bindS h1]
    simp only [c1, c2, h2, Option.bind_some, decide_true, Bool.not_true, Bool.or_self, Bool.false_eq_true, if_false]
    obtain ⟨o, k1, k2⟩ := forG (step := sparselaw19_EtreeAncestors_l120 (adj.length : Int) adj (par, 0)) (fun k (_ : Unit) => (k : Int)) adj.length (by omega) (fun _ _ => True) (fun o => o = .inl ()) (s0 := ()) trivial (by
        intro v _ hv _
        have hg : adj[v]? = some adj[v] := by simp [hv]
        have hlen := hG.len hg
        have hgv : getI adj (v : Int) = some adj[v] := getI_lt hv
        obtain ⟨o, k1, k2⟩ := forG (step := sparselaw19_EtreeAncestors_l159 adj (v : Int) (par, 0)) (fun k (_ : Unit) => (k : Int)) adj[v].length (by omega) (fun _ _ => True) (fun o => o = .inl ()) (s0 := ()) trivial (by
            intro j _ hj _
            have hr := hG.rng v _ _ hg (List.getElem_mem hj)
            obtain ⟨w, hw⟩ := Int.eq_ofNat_of_zero_le hr.1
            unfold sparselaw19_EtreeAncestors_l159
            rw [bindS hgv, if_pos (by omega), bindS hgv, bindS (getI_lt hj), hw]
            unfold sparselaw19_EtreeAncestors_j172
            by_cases hwv : (w : Int) < (v : Int)
            · rw [if_pos hwv, wa1 (by omega)]
              exact .inl ⟨(), rfl, trivial⟩
            · rw [if_neg hwv]
              obtain ⟨m, hm1, hm2⟩ := hG.sym v _ _ hg (List.getElem_mem hj)
              rw [hw] at hm1
              have hup : Up par v w := hE w m v (by omega) hm1 hm2 (by omega)
              have hwl : w < par.length := by omega
              rcases hup.cases with h3 | ⟨q, h3, h4⟩
              · omega
              · have hgI : getI par (v : Int) = some (q : Int) := h3
                have := h4.le hF.inc
                rw [bindS (climb_ok hF (by omega) hup hwl), if_pos rfl]
                simp only [hgI, Option.bind_some]
                rw [decide_eq_false (by omega), if_neg (by simp), decide_eq_false (by omega)]
                simp only [Option.bind_some, Bool.false_eq_true, if_false]
                rw [wa1 (by omega)]
                exact .inl ⟨(), rfl, trivial⟩) (by
            intro _ _
            unfold sparselaw19_EtreeAncestors_l159
            rw [bindS hgv, if_neg (by omega)]
            exact ⟨_, rfl, rfl⟩)
        have k1' : loop (sparselaw19_EtreeAncestors_l159 adj (v : Int) (par, 0)) 0 = some o := k1
        unfold sparselaw19_EtreeAncestors_l120
        rw [if_pos (by omega), bindS k1', k2]
        simp only
        rw [wa1 (by omega)]
        exact .inl ⟨(), rfl, trivial⟩) (by
        intro _ _
        unfold sparselaw19_EtreeAncestors_l120
        rw [if_neg (by omega)]
        exact ⟨_, rfl, rfl⟩)
    have k1' : loop (sparselaw19_EtreeAncestors_l120 (adj.length : Int) adj (par, 0)) 0 = some o := k1
    rw [bindS k1', k2]
    simp [awake19]
end Pl
