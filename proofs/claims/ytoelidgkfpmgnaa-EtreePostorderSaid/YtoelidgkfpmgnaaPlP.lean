/- The document's elimination over the models. -/
import Derived.Test.YtoelidgkfpmgnaaPlO
import Derived.KernelRfl
namespace Pl
open Sx Go M

theorem rIn_ok (l : List Int) (x : Int) (hl : l.length < 1000000) : sparsekit_In l x = some (decide (x ∈ l)) := by
  unfold sparsekit_In
  obtain ⟨o, h1, h2⟩ := forG (step := sparsekit_In_l1 l x) (fun k (_ : Unit) => (k : Int)) l.length (by omega) (fun k _ => x ∉ l.take k)
      (fun o => (o = .inl () ∧ x ∉ l) ∨ (o = .inr () ∧ x ∈ l)) (s0 := ()) (by simp) (by
        intro k _ hk hI
        unfold sparsekit_In_l1
        rw [if_pos (by omega), bindS (getI_lt hk)]
        by_cases he : l[k] = x
        · rw [if_pos he]
          exact .inr ⟨_, rfl, .inr ⟨rfl, he ▸ List.getElem_mem hk⟩⟩
        · rw [if_neg he, wa1 (by omega)]
          refine .inl ⟨(), rfl, ?_⟩
          rw [take_succ' hk, List.mem_append, List.mem_singleton]
          rintro (h | h)
          · exact hI h
          · exact he h.symm) (by
        intro _ hI
        unfold sparsekit_In_l1
        rw [if_neg (by omega)]
        refine ⟨_, rfl, .inl ⟨rfl, ?_⟩⟩
        rwa [List.take_of_length_le (Nat.le_refl _)] at hI)
  have h1' : loop (sparsekit_In_l1 l x) 0 = some o := h1
  rw [bindS h1']
  rcases h2 with ⟨rfl, h2⟩ | ⟨rfl, h2⟩
  · simp [h2]
  · simp [h2]

theorem rAsc_ok {l : List Int} (h : l.Pairwise (· < ·)) (hl : l.length < 1000000) : sparsekit_Ascending l = some true := by
  unfold sparsekit_Ascending
  obtain ⟨o, h1, h2⟩ := whileG (step := sparsekit_Ascending_l1 l) (s := 1) (fun s => ∃ k : Nat, s = (k : Int) ∧ 1 ≤ k) (fun o => o = .inl ()) (fun s => (l.length - s).toNat) ⟨1, rfl, by omega⟩ (by omega) (by
      rintro s ⟨k, rfl, hk1⟩
      unfold sparsekit_Ascending_l1
      by_cases hc : k < l.length
      · have e : ws .i64 (k : Int) 1 = ((k - 1 : Nat) : Int) := by rw [ws_in (by constructor <;> omega)]; omega
        have := asc_get h hc (i := k - 1) (by omega)
        rw [if_pos (by omega), bindS (getI_lt hc), e, bindS (getI_lt (by omega)), if_neg (by omega), wa1 (by omega)]
        exact .inl ⟨_, rfl, ⟨k + 1, rfl, by omega⟩, by omega⟩
      · rw [if_neg (by omega)]
        exact .inr ⟨_, rfl, rfl⟩)
  rw [bindS h1, h2]

theorem rCheck_ok {adj : List (List Int)} (hG : Gr adj) (hn : adj.length ≤ 200) : sparseref12_Check adj = some 0 := by
  unfold sparseref12_Check
  rw [if_neg (by omega)]
  obtain ⟨o, h1, h2⟩ := forG (step := sparseref12_Check_l21 adj) (fun k (_ : Unit) => (k : Int)) adj.length (by omega) (fun k _ => True)
      (fun o => o = .inl ()) (s0 := ()) trivial (by
        intro k _ hk _
        have hg : adj[k]? = some adj[k] := by simp [hk]
        have hgk : getI adj (k : Int) = some adj[k] := getI_lt hk
        have hlen := hG.len hg
        obtain ⟨o, h1, h2⟩ := forG (step := sparseref12_Check_l28 adj (k : Int)) (fun j (_ : Unit) => (j : Int)) adj[k].length (by omega) (fun j _ => True)
          (fun o => o = .inl ()) (s0 := ()) trivial (by
            intro j _ hj _
            have hr := hG.rng k _ _ hg (List.getElem_mem hj)
            obtain ⟨m, hm1, hm2⟩ := hG.sym k _ _ hg (List.getElem_mem hj)
            have hml := hG.len hm1
            have hgm : getI adj adj[k][j] = some m := getI_of hr.1 hm1
            unfold sparseref12_Check_l28
            rw [bindS hgk, if_pos (by omega), bindS hgk, bindS (getI_lt hj), if_neg (by simp; omega), bindS hgm, bindS (rIn_ok m _ (by omega))]
            simp only [hm2, decide_true, Bool.not_true, Option.bind_some, Bool.false_eq_true, if_false]
            rw [wa1 (by omega)]
            exact .inl ⟨(), rfl, trivial⟩) (by
            intro _ _
            unfold sparseref12_Check_l28
            rw [bindS hgk, if_neg (by omega)]
            exact ⟨_, rfl, rfl⟩)
        have h1' : loop (sparseref12_Check_l28 adj (k : Int)) 0 = some o := h1
        unfold sparseref12_Check_l21
        rw [if_pos (by omega), bindS hgk, bindS (rAsc_ok (hG.asc k _ hg) (by omega)), if_pos rfl, bindS h1', h2]
        simp only
        rw [wa1 (by omega)]
        exact .inl ⟨(), rfl, trivial⟩) (by
        intro _ _
        unfold sparseref12_Check_l21
        rw [if_neg (by omega)]
        exact ⟨_, rfl, rfl⟩)
  have h1' : loop (sparseref12_Check_l21 adj) 0 = some o := h1
  rw [bindS h1', h2]

/-- a table that says what a relation says -/
def Ts (T : List (List Bool)) (n : Nat) (R : Nat → Nat → Prop) : Prop := ∃ b, Tb T n b ∧ ∀ i j, i < n → j < n → (b i j = true ↔ R i j)

theorem table_ok {adj : List (List Int)} (hG : Gr adj) (hn : adj.length ≤ 1000) : ∃ T, sparseref12_Table adj = some T ∧ Ts T adj.length (EE adj 0) := by
  unfold sparseref12_Table
  obtain ⟨o, h1, h2⟩ := forG (step := sparseref12_Table_l3 adj) (fun k (s : List (List Bool)) => (s, (k : Int))) adj.length (by omega)
      (fun k s => s.length = k ∧ ∀ i, i < k → ∃ r : List Bool, s[i]? = some r ∧ r.length = adj.length ∧ ∀ j, j < adj.length → ∃ b : Bool, r[j]? = some b ∧ (b = true ↔ EE adj 0 i j))
      (fun o => Ts o adj.length (EE adj 0)) (s0 := []) ⟨rfl, fun i hi => by omega⟩ (by
        rintro k s hk ⟨hs, hrow⟩
        have hg : adj[k]? = some adj[k] := by simp [hk]
        have hgk : getI adj (k : Int) = some adj[k] := getI_lt hk
        have hlen := hG.len hg
        obtain ⟨o, h1, h2⟩ := forG (step := sparseref12_Table_l4 adj (k : Int)) (fun j (s : List Bool) => (s, (j : Int))) adj[k].length (by omega)
          (fun j s => s.length = adj.length ∧ ∀ i, i < adj.length → s[i]? = some (decide ((i : Int) ∈ adj[k].take j)))
          (fun o => o.length = adj.length ∧ ∀ i, i < adj.length → o[i]? = some (decide ((i : Int) ∈ adj[k]))) (s0 := List.replicate adj.length false) ⟨by simp, fun i hi => by simp [hi]⟩ (by
            rintro j s hj ⟨hs, hg2⟩
            have hr := hG.rng k _ _ hg (List.getElem_mem hj)
            unfold sparseref12_Table_l4
            simp only
            rw [bindS hgk, if_pos (by omega), bindS hgk, bindS (getI_lt hj), bindS (setI_of hr.1 (by omega)), wa1 (by omega)]
            refine .inl ⟨_, rfl, by simp [hs], fun i hi => ?_⟩
            rw [List.getElem?_set, take_succ' hj]
            by_cases hu2 : adj[k][j].toNat = i
            · rw [if_pos hu2, if_pos (by omega)]
              have : (i : Int) = adj[k][j] := by omega
              rw [this, decide_eq_true (List.mem_append.2 (.inr (List.mem_singleton.2 rfl)))]
            · rw [if_neg hu2, hg2 i hi]
              have : ¬ (i : Int) = adj[k][j] := by omega
              congr 1
              rw [decide_eq_decide, List.mem_append, List.mem_singleton]
              exact ⟨.inl, fun h => h.resolve_right this⟩) (by
            rintro s ⟨hs, hg2⟩
            unfold sparseref12_Table_l4
            simp only
            rw [bindS hgk, if_neg (by omega)]
            refine ⟨_, rfl, hs, fun i hi => ?_⟩
            rw [hg2 i hi, List.take_of_length_le (Nat.le_refl _)])
        have h1' : loop (sparseref12_Table_l4 adj (k : Int)) (List.replicate adj.length false, 0) = some o := h1
        unfold sparseref12_Table_l3
        simp only
        rw [if_pos (by omega), bindS (mkL_nat false adj.length (by omega)), bindS h1', bindS (app_small (by simp; omega)), wa1 (by omega)]
        refine .inl ⟨_, rfl, by simp [hs], fun i hi => ?_⟩
        by_cases hik : i = k
        · subst hik
          refine ⟨o, by rw [List.getElem?_append_right (by omega), hs]; simp, h2.1, fun j hj => ⟨_, h2.2 j hj, ?_⟩⟩
          rw [decide_eq_true_iff]
          constructor
          · exact fun h => ⟨_, hg, h⟩
          · rintro ⟨l, h3, h4⟩
            rw [hg] at h3
            have := Option.some.inj h3
            subst this
            exact h4
        · rw [List.getElem?_append_left (by omega)]
          exact hrow i (by omega)) (by
        rintro s ⟨hs, hrow⟩
        unfold sparseref12_Table_l3
        simp only
        rw [if_neg (by omega)]
        refine ⟨_, rfl, ?_⟩
        have hb : ∀ i j, ∃ b : Bool, b = true ↔ EE adj 0 i j := by
          intro i j
          by_cases h : EE adj 0 i j
          · exact ⟨true, by simp [h]⟩
          · exact ⟨false, by simp [h]⟩
        refine ⟨fun i j => Classical.choose (hb i j), ⟨hs, fun i hi => ?_⟩, fun i j _ _ => Classical.choose_spec (hb i j)⟩
        obtain ⟨r, h1, h2, h3⟩ := hrow i hi
        refine ⟨r, h1, h2, fun j hj => ?_⟩
        obtain ⟨b, h4, h5⟩ := h3 j hj
        rw [h4]
        congr 1
        have := Classical.choose_spec (hb i j)
        rw [Bool.eq_iff_iff, h5, this])
  have h1' : loop (sparseref12_Table_l3 adj) ([], 0) = some o := h1
  rw [bindS h1']
  exact ⟨o, rfl, h2⟩
end Pl
