/- The law of the levels over the models. -/
import Derived.Test.YtcknmegldjnjjaaPtA
import Derived.KernelRfl
namespace Pl
open Sx Go M

theorem awake12 : sparselaw12_awake = some true := by kernel_rfl

theorem gAsc_ok {l : List Int} (h : l.Pairwise (· < ·)) (hl : l.length < 1000000) : sparsekit_Ascending l = some true := by
  unfold sparsekit_Ascending
  obtain ⟨o, h1, h2⟩ := whileG (step := sparsekit_Ascending_l1 l) (s := 1) (fun s => ∃ k : Nat, s = (k : Int) ∧ 1 ≤ k) (fun o => o = .inl ()) (fun s => (l.length - s).toNat) ⟨1, rfl, by omega⟩ (by omega) (by
      rintro s ⟨k, rfl, hk1⟩
      unfold sparsekit_Ascending_l1
      by_cases hc : k < l.length
      · have e : ws .i64 (k : Int) 1 = ((k - 1 : Nat) : Int) := by rw [ws_in (by constructor <;> omega)]; omega
        have := asc_get h hc (i := k - 1) (by omega)
        rw [if_pos (by omega), bindS (getI_lt hc), e, bindS (getI_lt (by omega)), if_neg (by omega), wa1 (by omega)]
        exact .inl ⟨_, rfl, ⟨k + 1, rfl, by omega⟩, by omega⟩
      · rw [if_neg (by omega)]
        exact .inr ⟨_, rfl, rfl⟩)
  rw [bindS h1, h2]

theorem graphLevels_true (x1 : Int) (x2 : List Int) (x4 : Int) : sparselaw12_GraphLevels x1 x2 x4 = some true := by
  unfold sparselaw12_GraphLevels
  by_cases hc : (60 : Int) < (x2.length : Int)
  · rw [if_pos hc, awake12]; rfl
  · rw [if_neg hc]
    obtain ⟨z, hp, hz⟩ := place_ok x1 12 (by omega) (by omega)
    have hp' : sparsekit_Place x1 12 = some (z : Int) := hp
    have hw1 : wa .i64 1 (z : Int) = ((z + 1 : Nat) : Int) := by rw [wa_in (by constructor <;> omega)]; omega
    obtain ⟨b, hb⟩ := graph_ok (n := z + 1) (by omega) x2 (by omega)
    have hG := nbr_gr b (z + 1)
    have hadjl : ((List.range (z + 1)).map fun k => nbr b k (z + 1)).length = z + 1 := by simp
    generalize hadj : ((List.range (z + 1)).map fun k => nbr b k (z + 1)) = adj at hb hG hadjl
    obtain ⟨root, hq, hroot⟩ := place_ok x4 (z + 1) (by omega) (by omega)
    obtain ⟨out, lev, seen, hL, hB⟩ := levels_ok hG (by omega) (root := root) (by omega)
    have hv : graph_Levels adj (root : Int) = some out := by
      unfold graph_Levels graph_vertex
      simp [graphCheck_ok hG (show adj.length ≤ 200 by omega), hL]
      omega
    have hlv : ∀ (k : Nat) (l : List Int), out[k]? = some l → l.Pairwise (· < ·) ∧ (∀ x, x ∈ l → 0 ≤ x ∧ x < adj.length) ∧ ∀ u : Nat, u < adj.length → ((u : Int) ∈ l ↔ lev u = k + 1) := by
      intro k l h
      refine hB.lst k l ?_
      rw [List.getElem?_append_left (List.getElem?_eq_some_iff.1 h).1]; exact h
    have htop : ∀ u : Nat, u < adj.length → lev u ≤ out.length := by
      intro u hu
      have h1 := hB.top u hu
      have h2 := (hB.lst out.length [] (by simp)).2.2 u hu
      simp at h2
      omega
    have hcnt := hB.count
    rw [bindS hp', hw1, bindS hb, bindS hq, bindS hv, bindS (mkL_nat 0 (z + 1) (by omega))]
    obtain ⟨o, k1, k2⟩ := forG (step := sparselaw12_GraphLevels_l17 out (z : Int)) (fun k (s : List Int) => (s, (k : Int))) out.length (by omega)
      (fun i s => s.length = adj.length ∧ ∀ u : Nat, u < adj.length → s[u]? = some (if lev u ≤ i then (lev u : Int) else 0))
      (fun o => ∃ s, o = .inl s ∧ s.length = adj.length ∧ ∀ u : Nat, u < adj.length → s[u]? = some (lev u : Int)) (s0 := List.replicate (z + 1) 0)
      ⟨by simp [hadjl], fun u hu => by rw [List.getElem?_replicate, if_pos (by omega)]; split <;> simp <;> omega⟩ (by
        rintro i s hi ⟨hs, hg⟩
        have hgi : out[i]? = some out[i] := by simp [hi]
        have hgI : getI out (i : Int) = some out[i] := getI_lt hi
        obtain ⟨a1, a2, a3⟩ := hlv i _ hgi
        have hne := hB.ne _ (List.getElem_mem hi)
        have hpos := List.length_pos_iff.2 hne
        have hlen := asc_len a1 a2
        obtain ⟨o, k1, k2⟩ := forG (step := sparselaw12_GraphLevels_l119 out (i : Int) (z : Int)) (fun k (s : List Int) => (s, (k : Int))) out[i].length (by omega)
          (fun k s => s.length = adj.length ∧ ∀ u : Nat, u < adj.length → s[u]? = some (if lev u ≤ i ∨ (u : Int) ∈ out[i].take k then (lev u : Int) else 0))
          (fun o => ∃ s, o = .inl s ∧ s.length = adj.length ∧ ∀ u : Nat, u < adj.length → s[u]? = some (if lev u ≤ i + 1 then (lev u : Int) else 0)) (s0 := s)
          ⟨hs, fun u hu => by rw [hg u hu]; simp⟩ (by
            rintro k s hk ⟨hs, hg⟩
            have hr := a2 _ (List.getElem_mem hk)
            obtain ⟨w, hw⟩ := Int.eq_ofNat_of_zero_le hr.1
            have hwl : w < adj.length := by omega
            have hlw : lev w = i + 1 := (a3 w hwl).1 (hw ▸ List.getElem_mem hk)
            have hno : (w : Int) ∉ out[i].take k := by rw [← hw]; exact nodup_take (asc_nodup a1) hk
            have hgw : getI s (w : Int) = some 0 := by
              have := hg w hwl
              rw [if_neg (by simp [hno]; omega)] at this
              exact this
            unfold sparselaw12_GraphLevels_l119
            simp only
            rw [bindS hgI, if_pos (by omega), bindS hgI, bindS (getI_lt hk), hw, hw1, if_neg (by simp; omega), bindS hgw]
            simp only [decide_true, Bool.not_true, Option.bind_some, Bool.false_eq_true, if_false]
            rw [wa1 (by omega), wa1 (by omega), bindS (setI_lt (by omega))]
            refine .inl ⟨_, rfl, by simp [hs], fun u hu => ?_⟩
            rw [List.getElem?_set, take_succ' hk, hw]
            by_cases huw : w = u
            · subst huw
              rw [if_pos rfl, if_pos (by omega), if_pos (by simp), hlw]
            · rw [if_neg huw, hg u hu]
              have : ¬ (u : Int) = (w : Int) := by omega
              simp [this]) (by
            rintro s ⟨hs, hg⟩
            unfold sparselaw12_GraphLevels_l119
            simp only
            rw [bindS hgI, if_neg (by omega)]
            refine ⟨_, rfl, s, rfl, hs, fun u hu => ?_⟩
            have h3 := a3 u hu
            rw [hg u hu]
            by_cases h1 : lev u ≤ i + 1
            · rw [if_pos h1, if_pos (by rw [List.take_of_length_le (Nat.le_refl _), h3]; omega)]
            · rw [if_neg h1, if_neg (by rw [List.take_of_length_le (Nat.le_refl _), h3]; omega)])
        have k1' : loop (sparselaw12_GraphLevels_l119 out (i : Int) (z : Int)) (s, 0) = some o := k1
        obtain ⟨s', rfl, k3, k4⟩ := k2
        unfold sparselaw12_GraphLevels_l17
        simp only
        rw [if_pos (by omega), bindS hgI, if_neg (by omega), bindS hgI, bindS (gAsc_ok a1 (by omega))]
        simp only [Bool.not_true, Option.bind_some, Bool.false_eq_true, if_false]
        rw [bindS k1']
        simp only
        rw [wa1 (by omega)]
        exact .inl ⟨s', rfl, k3, k4⟩) (by
        rintro s ⟨hs, hg⟩
        unfold sparselaw12_GraphLevels_l17
        simp only
        rw [if_neg (by omega)]
        exact ⟨_, rfl, s, rfl, hs, fun u hu => by rw [hg u hu, if_pos (htop u hu)]⟩)
    have k1' : loop (sparselaw12_GraphLevels_l17 out (z : Int)) (List.replicate (z + 1) 0, 0) = some o := k1
    obtain ⟨at', rfl, hal, hat⟩ := k2
    rw [bindS k1']
    have hlr : lev root = 1 := (hB.rt root (by omega)).2 rfl
    have hout : 0 < out.length := by have := htop root (by omega); omega
    have hg0 : out[0]? = some out[0] := by simp [hout]
    have hgI0 : getI out 0 = some out[0] := getI_lt (k := 0) hout
    obtain ⟨a1, a2, a3⟩ := hlv 0 _ hg0
    have hrm : (root : Int) ∈ out[0] := (a3 root (by omega)).2 hlr
    have hall : ∀ x, x ∈ out[0] → x = (root : Int) := by
      intro x hx
      have h1 := a2 x hx
      have h2 := (a3 x.toNat (by omega)).1 (by rwa [show ((x.toNat : Nat) : Int) = x by omega])
      have := (hB.rt x.toNat (by omega)).1 h2
      omega
    have hlen1 : out[0].length = 1 := by
      have h1 := List.length_pos_of_mem hrm
      by_cases h2 : out[0].length = 1
      · exact h2
      · have h3 := asc_get a1 (i := 0) (j := 1) (by omega) (by omega)
        have h4 := hall _ (List.getElem_mem (show 0 < out[0].length by omega))
        have h5 := hall _ (List.getElem_mem (show 1 < out[0].length by omega))
        omega
    have hg00 : getI out[0] 0 = some (root : Int) := by
      have h1 : getI out[0] 0 = some (out[0][0]'(by omega)) := getI_lt (k := 0) (by omega)
      rw [h1, hall _ (List.getElem_mem (show 0 < out[0].length by omega))]
    simp only
    rw [if_neg (by omega), bindS hgI0]
    simp only [hlen1, Option.bind_some]
    rw [if_neg (by simp), bindS hgI0, bindS hg00]
    simp only [decide_true, Bool.not_true, Option.bind_some, Bool.false_eq_true, if_false]
    obtain ⟨o, k1, k2⟩ := forG (step := sparselaw12_GraphLevels_l82 (z : Int) at' adj) (fun k (_ : Unit) => (k : Int)) (z + 1) (by omega) (fun _ _ => True) (fun o => o = .inl ()) (s0 := ()) trivial (by
        intro v _ hvz _
        have hvl : v < adj.length := by omega
        have hgv : adj[v]? = some adj[v] := by simp [hvl]
        have hgI : getI adj (v : Int) = some adj[v] := getI_lt hvl
        have hav : getI at' (v : Int) = some (lev v : Int) := hat v hvl
        have hlen := hG.len hgv
        have hlvl := htop v hvl
        obtain ⟨o, k1, k2⟩ := forG (step := sparselaw12_GraphLevels_l103 adj (v : Int) at') (fun k (s : Bool) => (s, (k : Int))) adj[v].length (by omega)
          (fun j s => (lev v ≤ 1 ∨ ∃ w : Nat, (w : Int) ∈ adj[v].take j ∧ lev w + 1 = lev v) → s = true) (fun o => o = .inl true) (s0 := decide ((lev v : Int) ≤ 1)) (by
            rintro (h | ⟨w, h, _⟩)
            · simp; omega
            · simp at h) (by
            intro j s hj hI
            have hr := hG.rng v _ _ hgv (List.getElem_mem hj)
            obtain ⟨w, hw⟩ := Int.eq_ofNat_of_zero_le hr.1
            have hwl : w < adj.length := by omega
            have haw : getI at' (w : Int) = some (lev w : Int) := hat w hwl
            have hmem : (w : Int) ∈ adj[v] := hw ▸ List.getElem_mem hj
            have n1 : nbp adj v w := ⟨_, hgv, hmem⟩
            obtain ⟨m, hm1, hm2⟩ := hG.sym v _ _ hgv hmem
            have n2 : nbp adj w v := ⟨m, by simpa using hm1, hm2⟩
            have hlw := htop w hwl
            have e1 := hB.edge v w hvl n1
            have e2 := hB.edge w v hwl n2
            unfold sparselaw12_GraphLevels_l103
            simp only
            rw [bindS hgI, if_pos (by omega), bindS hgI, bindS (getI_lt hj), hw]
            simp only [hav, haw, Option.bind_some]
            rw [ws_in (by constructor <;> omega), ws_in (by constructor <;> omega), ws_in (by constructor <;> omega), if_neg (by omega)]
            rw [decide_eq_false (show ¬ (1 : Int) < (lev w : Int) - (lev v : Int) by omega)]
            simp only [Option.bind_some, Bool.false_eq_true, if_false]
            have h00 : decide ((lev v : Int) = 0) = decide ((lev w : Int) = 0) := by rw [decide_eq_decide]; omega
            rw [h00]
            simp only [beq_self_eq_true, Bool.not_true, Bool.false_eq_true, if_false]
            rw [wa1 (by omega)]
            refine .inl ⟨if s = true then true else decide ((lev w : Int) = (lev v : Int) - 1), by split <;> rfl, fun h => ?_⟩
            by_cases hs : s = true
            · rw [if_pos hs]
            · rw [if_neg hs]
              rcases h with h | ⟨u, h, hu⟩
              · exact absurd (hI (.inl h)) hs
              · rw [take_succ' hj, List.mem_append, List.mem_singleton, hw] at h
                rcases h with h | h
                · exact absurd (hI (.inr ⟨u, h, hu⟩)) hs
                · obtain rfl : u = w := by omega
                  rw [decide_eq_true_iff]; omega) (by
            intro s hI
            unfold sparselaw12_GraphLevels_l103
            simp only
            rw [bindS hgI, if_neg (by omega)]
            refine ⟨_, rfl, ?_⟩
            rw [hI ?_]
            by_cases h1 : lev v ≤ 1
            · exact .inl h1
            · obtain ⟨w, h2, ⟨l, h3, h4⟩, h5⟩ := hB.back v hvl (by omega)
              obtain ⟨m, hm1, hm2⟩ := hG.sym w _ _ h3 h4
              simp only [Int.toNat_natCast] at hm1
              rw [hgv] at hm1
              have := Option.some.inj hm1
              subst this
              exact .inr ⟨w, by rwa [List.take_of_length_le (Nat.le_refl _)], h5⟩)
        have k1' : loop (sparselaw12_GraphLevels_l103 adj (v : Int) at') (decide ((lev v : Int) ≤ 1), 0) = some o := k1
        unfold sparselaw12_GraphLevels_l82
        rw [hw1, if_pos (by omega), bindS hav, bindS k1', k2]
        simp only [if_true]
        rw [wa1 (by omega)]
        exact .inl ⟨(), rfl, trivial⟩) (by
        intro _ _
        unfold sparselaw12_GraphLevels_l82
        rw [hw1, if_neg (by omega)]
        exact ⟨_, rfl, rfl⟩)
    have k1' : loop (sparselaw12_GraphLevels_l82 (z : Int) at' adj) 0 = some o := k1
    rw [bindS k1', k2]
    simp [awake12]
end Pl
