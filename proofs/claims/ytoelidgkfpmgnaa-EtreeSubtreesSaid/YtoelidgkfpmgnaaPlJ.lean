/- The law of the subtrees over the models. -/
import Derived.Test.YtoelidgkfpmgnaaPlI
import Derived.KernelRfl
namespace Pl
open Sx Go M

theorem tree_ok {n : Nat} (hn : n ≤ 1000) (x2 : List Int) : ∃ par : List Int, sparsemake_Tree (n : Int) x2 = some par ∧ par.length = n ∧ Fo par := by
  unfold sparsemake_Tree
  obtain ⟨o, h1, h2⟩ := forG (step := sparsemake_Tree_l3 (n : Int) x2) (fun k (s : List Int) => (s, (k : Int))) n (by omega)
      (fun k s => s.length = k ∧ ∀ j, j < k → ∀ p, s[j]? = some p → p = -1 ∨ ((j : Int) < p ∧ p < n))
      (fun par => par.length = n ∧ Fo par) (s0 := []) ⟨rfl, fun j hj => by omega⟩ (by
        rintro k s hk ⟨hs, hg⟩
        have hat : ∃ z, sparsemake_At x2 (k : Int) = some z := by
          unfold sparsemake_At
          by_cases h : (k : Int) < (x2.length : Int)
          · rw [if_pos h, bindS (getI_lt (by omega))]; exact ⟨_, rfl⟩
          · rw [if_neg h]; exact ⟨_, rfl⟩
        obtain ⟨z, hz⟩ := hat
        have hm : ws .i64 (n : Int) (k : Int) = ((n - k : Nat) : Int) := by rw [ws_in (by constructor <;> omega)]; omega
        obtain ⟨q, hq, hqn⟩ := place_ok z (n - k) (by omega) (by omega)
        unfold sparsemake_Tree_l3
        simp only
        rw [if_pos (by omega), bindS hz, hm, bindS hq, wa_in (by constructor <;> omega)]
        have happ : ∀ r : Int, (r = -1 ∨ ((k : Int) < r ∧ r < n)) → (∃ s', sparsemake_Tree_j4 s (k : Int) r = some (.inl (s', ((k + 1 : Nat) : Int))) ∧ (s'.length = k + 1 ∧ ∀ j, j < k + 1 → ∀ p, s'[j]? = some p → p = -1 ∨ ((j : Int) < p ∧ p < n))) := by
          intro r hr
          unfold sparsemake_Tree_j4
          rw [bindS (app_small (by simp; omega)), wa1 (by omega)]
          refine ⟨s ++ [r], rfl, by simp [hs], fun j hj p hp => ?_⟩
          by_cases hjk : j = k
          · subst hjk
            rw [List.getElem?_append_right (by omega), hs] at hp
            simp at hp; subst hp; exact hr
          · rw [List.getElem?_append_left (by omega)] at hp
            exact hg j (by omega) p hp
        left
        by_cases h0 : (k : Int) + (q : Int) = (k : Int)
        · rw [if_pos h0]
          obtain ⟨s', h3, h4⟩ := happ (-1) (.inl rfl)
          exact ⟨s', h3, h4⟩
        · rw [if_neg h0]
          obtain ⟨s', h3, h4⟩ := happ ((k : Int) + (q : Int)) (.inr ⟨by omega, by omega⟩)
          exact ⟨s', h3, h4⟩) (by
        rintro s ⟨hs, hg⟩
        unfold sparsemake_Tree_l3
        simp only
        rw [if_neg (by omega)]
        exact ⟨_, rfl, hs, fun j hj p hp => by have := hg j (by omega) p hp; omega⟩)
  have h1' : loop (sparsemake_Tree_l3 (n : Int) x2) ([], 0) = some o := h1
  rw [bindS h1']
  exact ⟨o, rfl, h2⟩

theorem sm_mono {g : Nat → Nat} (k : Nat) : ∀ d, sm g k ≤ sm g (k + d) := by
  intro d
  induction d with
  | zero => exact Nat.le_refl _
  | succ d ih => show _ ≤ sm g (k + d) + g (k + d); omega

theorem etreeSubtrees_true (x : Int) (x2 : List Int) : sparselaw19_EtreeSubtrees x x2 = some true := by
  unfold sparselaw19_EtreeSubtrees
  obtain ⟨n, hp, hn⟩ := place_ok x 13 (by omega) (by omega)
  have hp' : sparsekit_Place x 13 = some (n : Int) := hp
  rw [bindS hp']
  by_cases hc : (40 : Int) < (x2.length : Int)
  · rw [if_pos hc, awake19]; rfl
  · rw [if_neg hc]
    obtain ⟨par, ht, rfl, hF⟩ := tree_ok (n := n) (by omega) x2
    have h20 : par.length ≤ 20 := by omega
    have hP := post_perm hF h20
    obtain ⟨inv, hi1, hi2, hi3⟩ := invert_ok (by omega) hP
    rw [bindS ht, bindS (post_e h20 hF), bindS (depths_e (by omega) hF), bindS (sizes_e (by omega) hF)]
    simp only [perm_ok (by omega) hP, Option.bind_some, decide_true, Bool.not_true, Bool.or_self, Bool.false_eq_true, if_false, List.length_map, List.length_range]
    rw [bindS hi1]
    have hD : ∀ v, v < par.length → ((List.range par.length).map fun j => (D par j : Int))[v]? = some (D par v : Int) := by intro v hv; simp [hv]
    have hS : ∀ v, v < par.length → ((List.range par.length).map fun p => (S par par.length par.length p : Int))[v]? = some (S par par.length par.length v : Int) := by intro v hv; simp [hv]
    have hinv : ∀ v s, v < par.length → At par (POk par (PO par FUEL) par.length (-1)) v s → inv[v]? = some ((s + (PO par FUEL v).length - 1 : Nat) : Int) := by
      intro v s hv h
      have h1 := at_pos h
      have := hi3 _ _ h1.2
      simpa using this
    have hsz : ∀ v, v < par.length → (PO par FUEL v).length = S par par.length par.length v := by
      intro v hv
      exact PO_size hF FUEL v (by unfold FUEL; omega) hv
    have hlen : sm (fun c => if par[c]? = some (-1) then S par par.length par.length c else 0) par.length = par.length := by
      have h1 := hP.len
      rw [POk_size] at h1
      refine Eq.trans (sm_congr _ fun c hc => ?_) h1
      split
      · rw [hsz c hc]
      · rfl
    have hDl : ∀ v, v < par.length → D par v ≤ 200 := by
      intro v hv
      have := D_lt hF (par.length - v) v (by omega)
      omega
    have hSl : ∀ v, S par par.length par.length v ≤ 200 := fun v => by have := S_le hF (k' := par.length) (k := par.length) (p := v) (Nat.le_refl _); omega
    generalize hDd : ((List.range par.length).map fun j => (D par j : Int)) = Ds at hD
    generalize hSd : ((List.range par.length).map fun p => (S par par.length par.length p : Int)) = Ss at hS
    obtain ⟨o, h1, h2⟩ := forG (step := sparselaw19_EtreeSubtrees_l50 (par.length : Int) par (Ss, 0) (Ds, 0) inv) (fun k (s : Int) => (s, (k : Int))) par.length (by omega)
      (fun k s => s = (sm (fun c => if par[c]? = some (-1) then S par par.length par.length c else 0) k : Nat))
      (fun o => o = .inl (par.length : Int)) (s0 := 0) rfl (by
        intro k s hk hI
        subst hI
        have hg : par[k]? = some par[k] := by simp [hk]
        have hm := sm_mono (g := fun c => if par[c]? = some (-1) then S par par.length par.length c else 0) k (par.length - k)
        rw [show k + (par.length - k) = par.length by omega, hlen] at hm
        have hSk := hSl k
        have e1 : getI Ss (k : Int) = some (S par par.length par.length k : Int) := hS k hk
        have e2 : getI Ds (k : Int) = some (D par k : Int) := hD k hk
        unfold sparselaw19_EtreeSubtrees_l50
        simp only
        rw [if_pos (by omega), bindS (getI_lt hk)]
        by_cases h0 : par[k] < 0
        · have h00 : par[k] = -1 := by have := hF k hk _ hg; omega
          have hD0 : D par k = 0 := D_root (by rw [hg, h00])
          rw [if_pos h0, bindS e1, bindS e2, if_pos (by rw [hD0]; rfl)]
          unfold sparselaw19_EtreeSubtrees_j66
          rw [wa1 (by omega), wa_in (by constructor <;> omega)]
          refine .inl ⟨_, rfl, ?_⟩
          rw [sm, hg, h00, if_pos rfl]; rfl
        · have h00 := (hF k hk _ hg).resolve_left (by omega)
          have hpl : par[k].toNat < par.length := by omega
          have ep : ((par[k].toNat : Nat) : Int) = par[k] := by omega
          obtain ⟨s', hs'⟩ := at_all hF h20 _ par[k].toNat rfl hpl
          obtain ⟨s, hs, h4, h5⟩ := at_child hF h20 (c := k) (p := par[k].toNat) (by rw [hg, ep]) hs'
          have h6 := at_pos hs
          have h7 := at_pos hs'
          have i1 : getI inv (k : Int) = some ((s + (PO par FUEL k).length - 1 : Nat) : Int) := hinv k s hk hs
          have i2 : getI inv par[k] = some ((s' + (PO par FUEL par[k].toNat).length - 1 : Nat) : Int) := getI_of (by omega) (hinv _ _ hpl hs')
          have e3 : getI Ss par[k] = some (S par par.length par.length par[k].toNat : Int) := getI_of (by omega) (hS _ hpl)
          have e4 : getI Ds par[k] = some (D par par[k].toNat : Int) := getI_of (by omega) (hD _ hpl)
          have hDk := D_next hF hg (by omega)
          have hDp := hDl _ hpl
          have l1 := hsz k hk
          have l2 := hsz _ hpl
          have hSp := hSl par[k].toNat
          rw [l1] at h5 i1 h6
          rw [l2] at h5 i2 h7
          have hb : s' + S par par.length par.length par[k].toNat ≤ 1000000 := by
            have h8 := (List.getElem?_eq_some_iff.1 h7.2).1
            rw [hP.len] at h8
            omega
          rw [if_neg h0, bindS e2, bindS (getI_lt hk), bindS e4, wa_in (by constructor <;> omega), if_pos (by omega)]
          simp only [i1, i2, e1, e3, getI_lt hk, Option.bind_some]
          rw [decide_eq_false (by omega), if_neg (by simp), ws_in (by constructor <;> omega), ws_in (by constructor <;> omega)]
          simp only [Option.bind_some]
          rw [decide_eq_false (by omega), if_neg (by simp)]
          unfold sparselaw19_EtreeSubtrees_j66
          rw [wa1 (by omega)]
          refine .inl ⟨_, rfl, ?_⟩
          rw [sm, hg, if_neg (by simp; omega)]; rfl) (by
        intro s hI
        subst hI
        unfold sparselaw19_EtreeSubtrees_l50
        simp only
        rw [if_neg (by omega)]
        exact ⟨_, rfl, by rw [hlen]⟩)
    have h1' : loop (sparselaw19_EtreeSubtrees_l50 (par.length : Int) par (Ss, 0) (Ds, 0) inv) (0, 0) = some o := h1
    rw [bindS h1', h2]
    simp [awake19]
end Pl
