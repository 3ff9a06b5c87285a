/- The document's levels. (Under way.) -/
import Derived.Test.YthpeajepbffinaaGreatPsC
namespace Pl
open Sx Go M

/-- marks: u is marked if it is joined to a vertex of the first lists and not seen -/
theorem mark_ok {adj : List (List Int)} {l : List Int} (hr : ∀ x, x ∈ l → 0 ≤ x ∧ x < adj.length) (hll : l.length ≤ 1000) {seen : List Bool} {sv : Nat → Prop} [DecidablePred sv] (hg : ∀ u : Nat, u < adj.length → seen[u]? = some (decide (sv u)))
  {t : List Bool} {mk : Nat → Prop} [DecidablePred mk] (ht : t.length = adj.length) (hm : ∀ u : Nat, u < adj.length → t[u]? = some (decide (mk u))) :
  ∃ t', loop (sparseref12_Levels_l105 l seen) (t, 0) = some t' ∧ t'.length = adj.length ∧ ∀ u : Nat, u < adj.length → t'[u]? = some (decide (mk u ∨ ((u : Int) ∈ l ∧ ¬ sv u))) := by
 obtain ⟨o, h1, h2⟩ := forG (step := sparseref12_Levels_l105 l seen) (fun k (s : List Bool) => (s, (k : Int))) l.length (by omega)
  (fun k s => s.length = adj.length ∧ ∀ u : Nat, u < adj.length → s[u]? = some (decide (mk u ∨ ((u : Int) ∈ l.take k ∧ ¬ sv u))))
  (fun s => s.length = adj.length ∧ ∀ u : Nat, u < adj.length → s[u]? = some (decide (mk u ∨ ((u : Int) ∈ l ∧ ¬ sv u)))) (s0 := t) ⟨ht, fun u hu => by rw [hm u hu]; simp⟩ (by
   rintro k s hk ⟨hsl, hsg⟩
   have hrk := hr _ (List.getElem_mem hk)
   obtain ⟨w, hw⟩ := Int.eq_ofNat_of_zero_le hrk.1
   have hwl : w < adj.length := by omega
   have e1 : getI s (w : Int) = some (decide (mk w ∨ ((w : Int) ∈ l.take k ∧ ¬ sv w))) := hsg w hwl
   have e2 : getI seen (w : Int) = some (decide (sv w)) := hg w hwl
   have hv : (if (decide (mk w ∨ ((w : Int) ∈ l.take k ∧ ¬ sv w))) = true then some true else (getI l (k : Int)).bind fun x626 => (getI seen x626).bind fun x627 => some (!(x627))) = some (decide (mk w ∨ ¬ sv w)) := by
    by_cases hc : mk w ∨ ((w : Int) ∈ l.take k ∧ ¬ sv w)
    ·rw [if_pos (by simpa using hc)]
     congr 1
     symm
     rw [decide_eq_true_iff]
     exact hc.imp id (·.2)
    ·rw [if_neg (by simpa using hc), bindS (getI_lt hk), hw, bindS e2]
     have hnm : ¬ mk w := fun h => hc (.inl h)
     by_cases hsv : sv w <;> simp [hsv, hnm]
   unfold sparseref12_Levels_l105
   simp only
   rw [if_pos (by omega), bindS (getI_lt hk), bindS (getI_lt hk), hw, bindS e1]
   rw [hv]
   rw [Option.bind_some, bindS (setI_lt (by omega)), wa1 (by omega)]
   refine .inl ⟨_, rfl, by simp [hsl], fun u hu => ?_⟩
   rw [List.getElem?_set]
   by_cases hwu : w = u
   ·subst hwu
    rw [if_pos rfl, if_pos (by omega)]
    congr 1
    rw [decide_eq_decide, take_succ' hk, List.mem_append, List.mem_singleton, hw]
    simp
   ·rw [if_neg hwu, hsg u hu]
    congr 1
    rw [decide_eq_decide, take_succ' hk, List.mem_append, List.mem_singleton, hw]
    have : ¬ (u : Int) = (w : Int) := by omega
    simp [this]) (by
   rintro s ⟨hsl, hsg⟩
   unfold sparseref12_Levels_l105
   simp only
   rw [if_neg (by omega)]
   exact ⟨_, rfl, hsl, fun u hu => by rw [hsg u hu, List.take_of_length_le (Nat.le_refl _)]⟩)
 exact ⟨o, h1, h2⟩

open Classical in
theorem marks_ok {adj : List (List Int)} (hG : Gr adj) (hn : adj.length ≤ 30) {now : List Int} (hnow : ∀ x, x ∈ now → 0 ≤ x ∧ x < adj.length) (hnl : now.length ≤ 1000) {seen : List Bool} {sv : Nat → Prop} [DecidablePred sv] (hg : ∀ u : Nat, u < adj.length → seen[u]? = some (decide (sv u))) :
  ∃ t, loop (sparseref12_Levels_l94 now adj seen) (List.replicate adj.length false, 0) = some t ∧ t.length = adj.length ∧ ∀ u : Nat, u < adj.length → t[u]? = some (decide ((∃ v : Nat, (v : Int) ∈ now ∧ nbp adj v u) ∧ ¬ sv u)) := by
 obtain ⟨o, h1, h2⟩ := forG (step := sparseref12_Levels_l94 now adj seen) (fun k (s : List Bool) => (s, (k : Int))) now.length (by omega)
  (fun k s => s.length = adj.length ∧ ∀ u : Nat, u < adj.length → s[u]? = some (decide ((∃ v : Nat, (v : Int) ∈ now.take k ∧ nbp adj v u) ∧ ¬ sv u)))
  (fun s => s.length = adj.length ∧ ∀ u : Nat, u < adj.length → s[u]? = some (decide ((∃ v : Nat, (v : Int) ∈ now ∧ nbp adj v u) ∧ ¬ sv u))) (s0 := List.replicate adj.length false) ⟨by simp, fun u hu => by simp [hu]⟩ (by
   rintro k s hk ⟨hsl, hsg⟩
   have hrk := hnow _ (List.getElem_mem hk)
   obtain ⟨v, hv⟩ := Int.eq_ofNat_of_zero_le hrk.1
   have hvl : v < adj.length := by omega
   have hgv : adj[v]? = some adj[v] := by simp [hvl]
   have hlen := hG.len hgv
   obtain ⟨t', k1, k2, k3⟩ := mark_ok (fun x hx => ⟨(hG.rng v _ x hgv hx).1, (hG.rng v _ x hgv hx).2.1⟩) (by omega) hg hsl hsg
   unfold sparseref12_Levels_l94
   simp only
   rw [if_pos (by omega), bindS (getI_lt hk), hv, bindS (getI_lt hvl), bindS k1, wa1 (by omega)]
   refine .inl ⟨_, rfl, k2, fun u hu => ?_⟩
   rw [k3 u hu]
   congr 1
   rw [decide_eq_decide]
   constructor
   ·rintro (⟨⟨v', h3, h4⟩, h5⟩ | ⟨h3, h4⟩)
    ·exact ⟨⟨v', by rw [take_succ' hk]; exact List.mem_append.2 (.inl h3), h4⟩, h5⟩
    ·exact ⟨⟨v, by rw [take_succ' hk, hv]; exact List.mem_append.2 (.inr (List.mem_singleton.2 rfl)), _, hgv, h3⟩, h4⟩
   ·rintro ⟨⟨v', h3, h4⟩, h5⟩
    rw [take_succ' hk, List.mem_append, List.mem_singleton, hv] at h3
    rcases h3 with h3 | h3
    ·exact .inl ⟨⟨v', h3, h4⟩, h5⟩
    ·obtain rfl : v' = v := by omega
     obtain ⟨l, h6, h7⟩ := h4
     rw [hgv] at h6
     have := Option.some.inj h6
     subst this
     exact .inr ⟨h7, h5⟩) (by
   rintro s ⟨hsl, hsg⟩
   unfold sparseref12_Levels_l94
   simp only
   rw [if_neg (by omega)]
   exact ⟨_, rfl, hsl, fun u hu => by rw [hsg u hu, List.take_of_length_le (Nat.le_refl _)]⟩)
 exact ⟨o, h1, h2⟩
end Pl
