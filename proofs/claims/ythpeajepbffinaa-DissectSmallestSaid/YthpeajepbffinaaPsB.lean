/- Levels of a graph from a vertex: the search by breadth of the program. -/
import Derived.Test.YthpeajepbffinaaPsA
import Derived.Test.YthpeajepbffinaaPlL
namespace Pl
open Sx Go M

theorem nodup_len : ∀ (n : Nat) (l : List Int), l.Nodup → (∀ x, x ∈ l → 0 ≤ x ∧ x < n) → l.length ≤ n := by
 intro n
 induction n with
 | zero =>
  intro l _ h
  cases l with
  | nil => simp
  | cons x l => have := h x (by simp); omega
 | succ n ih =>
  intro l hd h
  have h1 := ih (l.filter (fun x => decide (x ≠ (n : Int)))) (hd.filter _) (fun x hx => by
   rw [List.mem_filter] at hx
   have h2 := h x hx.1
   have h3 : x ≠ (n : Int) := by simpa using hx.2
   omega)
  have h2 := List.nodup_iff_count.1 hd (n : Int)
  have h3 := List.length_eq_countP_add_countP (fun x => decide (x ≠ (n : Int))) (l := l)
  rw [List.countP_eq_length_filter] at h3
  have h4 : List.countP (fun a => decide (¬ (decide (a ≠ (n : Int))) = true)) l = l.count (n : Int) := by
   unfold List.count
   refine List.countP_congr fun x _ => ?_
   simp
  omega

def nbp (adj : List (List Int)) (v w : Nat) : Prop := ∃ l, adj[v]? = some l ∧ (w : Int) ∈ l

structure IN (adj : List (List Int)) (lev : Nat → Nat) (now : List Int) (seen : List Bool) (next : List Int) : Prop where
 len : seen.length = adj.length
 see : ∀ u : Nat, u < adj.length → seen[u]? = some (decide (lev u ≠ 0 ∨ (u : Int) ∈ next))
 nd : next.Nodup
 new : ∀ x, x ∈ next → 0 ≤ x ∧ x < adj.length ∧ lev x.toNat = 0 ∧ ∃ v : Nat, (v : Int) ∈ now ∧ nbp adj v x.toNat

theorem bfs_in {adj : List (List Int)} (hG : Gr adj) (hn : adj.length ≤ 30) {lev : Nat → Nat} {now : List Int} {v : Nat} {l : List Int} (hv : adj[v]? = some l) (hvn : (v : Int) ∈ now) {seen : List Bool} {next : List Int} (h : IN adj lev now seen next) :
  ∃ s : List Bool × List Int, loop (graph_levels_l39 l) (seen, next, 0) = some s ∧ IN adj lev now s.1 s.2 ∧ (∀ x, x ∈ next → x ∈ s.2) ∧ ∀ w : Nat, (w : Int) ∈ l → lev w ≠ 0 ∨ (w : Int) ∈ s.2 := by
 have hlen := hG.len hv
 obtain ⟨o, h1, h2⟩ := forG (step := graph_levels_l39 l) (fun k (s : List Bool × List Int) => (s.1, s.2, (k : Int))) l.length (by omega)
  (fun k s => IN adj lev now s.1 s.2 ∧ (∀ x, x ∈ next → x ∈ s.2) ∧ ∀ w : Nat, (w : Int) ∈ l.take k → lev w ≠ 0 ∨ (w : Int) ∈ s.2)
  (fun s => IN adj lev now s.1 s.2 ∧ (∀ x, x ∈ next → x ∈ s.2) ∧ ∀ w : Nat, (w : Int) ∈ l → lev w ≠ 0 ∨ (w : Int) ∈ s.2) (s0 := (seen, next)) ⟨h, fun _ h => h, fun w hw => by simp at hw⟩ (by
   rintro k ⟨seen, nx⟩ hk ⟨hI, hs, hd⟩
   simp only at hI hs hd
   have hr := hG.rng v _ _ hv (List.getElem_mem hk)
   obtain ⟨w, hw⟩ := Int.eq_ofNat_of_zero_le hr.1
   have hwn : w < adj.length := by omega
   have hmem : (w : Int) ∈ l := hw ▸ List.getElem_mem hk
   have hgs : getI seen (w : Int) = some (decide (lev w ≠ 0 ∨ (w : Int) ∈ nx)) := hI.see w hwn
   have hnl := nodup_len adj.length nx hI.nd (fun x hx => ⟨(hI.new x hx).1, (hI.new x hx).2.1⟩)
   have hlen2 := hI.len
   unfold graph_levels_l39
   simp only
   rw [if_pos (by omega), bindS (getI_lt hk), hw, bindS hgs]
   unfold graph_levels_j40
   by_cases hc : lev w ≠ 0 ∨ (w : Int) ∈ nx
   ·rw [if_pos (by simpa using hc), wa1 (by omega)]
    refine .inl ⟨(seen, nx), rfl, hI, hs, fun u hu => ?_⟩
    rw [take_succ' hk, List.mem_append, List.mem_singleton, hw] at hu
    rcases hu with hu | hu
    ·exact hd u hu
    ·obtain rfl : u = w := by omega
     exact hc
   ·rw [if_neg (by simpa using hc), bindS (setI_lt (by omega)), bindS (app_small (by simp; omega)), wa1 (by omega)]
    have hc1 : lev w = 0 := by
     by_cases h : lev w = 0
     ·exact h
     ·exact absurd (.inl h) hc
    have hc2 : (w : Int) ∉ nx := fun h => hc (.inr h)
    refine .inl ⟨(seen.set w true, nx ++ [(w : Int)]), rfl, ⟨by simp [hlen2], fun u hu => ?_, ?_, fun x hx => ?_⟩, fun x hx => by simp [hs x hx], fun u hu => ?_⟩
    ·rw [List.getElem?_set]
     by_cases huw : w = u
     ·subst huw
      rw [if_pos rfl, if_pos (by omega)]; simp
     ·rw [if_neg huw, hI.see u hu]
      have : ¬ (u : Int) = (w : Int) := by omega
      simp [this]
    ·rw [List.nodup_append]
     refine ⟨hI.nd, by simp, fun a ha b hb => ?_⟩
     simp at hb; subst hb
     rintro rfl; exact hc2 ha
    ·rw [List.mem_append, List.mem_singleton] at hx
     rcases hx with hx | hx
     ·exact hI.new x hx
     ·subst hx
      exact ⟨by omega, by omega, by simpa using hc1, v, hvn, l, hv, by simpa using hmem⟩
    ·rw [take_succ' hk, List.mem_append, List.mem_singleton, hw] at hu
     rcases hu with hu | hu
     ·rcases hd u hu with h | h
      ·exact .inl h
      ·exact .inr (by simp [h])
     ·obtain rfl : u = w := by omega
      exact .inr (by simp)) (by
   rintro ⟨seen, nx⟩ ⟨hI, hs, hd⟩
   unfold graph_levels_l39
   simp only
   rw [if_neg (by omega)]
   exact ⟨_, rfl, hI, hs, fun w hw => hd w (by rwa [List.take_of_length_le (Nat.le_refl _)])⟩)
 exact ⟨o, h1, h2⟩

theorem bfs_mid {adj : List (List Int)} (hG : Gr adj) (hn : adj.length ≤ 30) {lev : Nat → Nat} {now : List Int} (hnow : ∀ x, x ∈ now → 0 ≤ x ∧ x < adj.length) (hnl : now.length ≤ 1000) {seen : List Bool} (hs : seen.length = adj.length) (hg : ∀ u : Nat, u < adj.length → seen[u]? = some (decide (lev u ≠ 0))) :
  ∃ s : List Bool × List Int, loop (graph_levels_l36 now adj) (seen, [], 0) = some s ∧ IN adj lev now s.1 s.2 ∧ ∀ v w : Nat, (v : Int) ∈ now → nbp adj v w → lev w ≠ 0 ∨ (w : Int) ∈ s.2 := by
 obtain ⟨o, h1, h2⟩ := forG (step := graph_levels_l36 now adj) (fun k (s : List Bool × List Int) => (s.1, s.2, (k : Int))) now.length (by omega)
  (fun k s => IN adj lev now s.1 s.2 ∧ ∀ v w : Nat, (v : Int) ∈ now.take k → nbp adj v w → lev w ≠ 0 ∨ (w : Int) ∈ s.2)
  (fun s => IN adj lev now s.1 s.2 ∧ ∀ v w : Nat, (v : Int) ∈ now → nbp adj v w → lev w ≠ 0 ∨ (w : Int) ∈ s.2) (s0 := (seen, [])) ⟨⟨hs, fun u hu => by rw [hg u hu]; simp, by simp, fun x hx => by simp at hx⟩, fun v w hv => by simp at hv⟩ (by
   rintro k ⟨seen, nx⟩ hk ⟨hI, hd⟩
   simp only at hI hd
   have hr := hnow _ (List.getElem_mem hk)
   obtain ⟨v, hv⟩ := Int.eq_ofNat_of_zero_le hr.1
   have hvl : v < adj.length := by omega
   have hgv : adj[v]? = some adj[v] := by simp [hvl]
   obtain ⟨s, k1, k2, k3, k4⟩ := bfs_in hG hn hgv (hv ▸ List.getElem_mem hk) hI
   unfold graph_levels_l36
   simp only
   rw [if_pos (by omega), bindS (getI_lt hk), hv, bindS (getI_lt hvl), bindS k1, wa1 (by omega)]
   refine .inl ⟨s, rfl, k2, fun u w hu hw => ?_⟩
   rw [take_succ' hk, List.mem_append, List.mem_singleton, hv] at hu
   rcases hu with hu | hu
   ·exact (hd u w hu hw).imp id (k3 _)
   ·obtain rfl : u = v := by omega
    obtain ⟨l, h3, h4⟩ := hw
    rw [hgv] at h3
    have := Option.some.inj h3
    subst this
    exact k4 w h4) (by
   rintro ⟨seen, nx⟩ ⟨hI, hd⟩
   unfold graph_levels_l36
   simp only
   rw [if_neg (by omega)]
   exact ⟨_, rfl, hI, fun v w hv hw => hd v w (by rwa [List.take_of_length_le (Nat.le_refl _)]) hw⟩)
 exact ⟨o, h1, h2⟩

structure BF (adj : List (List Int)) (root : Nat) (lev : Nat → Nat) (seen : List Bool) (out : List (List Int)) (now : List Int) : Prop where
 len : seen.length = adj.length
 see : ∀ u : Nat, u < adj.length → seen[u]? = some (decide (lev u ≠ 0))
 lst : ∀ (k : Nat) (l : List Int), (out ++ [now])[k]? = some l → l.Pairwise (· < ·) ∧ (∀ x, x ∈ l → 0 ≤ x ∧ x < adj.length) ∧ ∀ u : Nat, u < adj.length → ((u : Int) ∈ l ↔ lev u = k + 1)
 top : ∀ u : Nat, u < adj.length → lev u ≤ out.length + 1
 ne : ∀ l, l ∈ out → l ≠ []
 rt : ∀ u : Nat, u < adj.length → (lev u = 1 ↔ u = root)
 edge : ∀ v w : Nat, v < adj.length → nbp adj v w → lev v ≠ 0 → lev v ≤ out.length → lev w ≠ 0 ∧ lev w ≤ lev v + 1
 back : ∀ u : Nat, u < adj.length → 2 ≤ lev u → ∃ w : Nat, w < adj.length ∧ nbp adj w u ∧ lev w + 1 = lev u

theorem BF.count {adj : List (List Int)} {root : Nat} {lev : Nat → Nat} {seen : List Bool} {out : List (List Int)} {now : List Int} (h : BF adj root lev seen out now) : out.length ≤ adj.length := by
 have hex : ∀ k, k < out.length → ∃ u : Nat, u < adj.length ∧ lev u = k + 1 := by
  intro k hk
  have hg : (out ++ [now])[k]? = some out[k] := by rw [List.getElem?_append_left hk]; simp [hk]
  have hne := h.ne _ (List.getElem_mem hk)
  obtain ⟨x, hx⟩ := List.exists_mem_of_ne_nil _ hne
  have h1 := h.lst k _ hg
  have h2 := h1.2.1 x hx
  refine ⟨x.toNat, by omega, (h1.2.2 x.toNat (by omega)).1 ?_⟩
  rwa [show ((x.toNat : Nat) : Int) = x by omega]
 have hex2 : ∀ k, ∃ u : Nat, k < out.length → (u < adj.length ∧ lev u = k + 1) := by
  intro k
  by_cases hk : k < out.length
  ·obtain ⟨u, hu⟩ := hex k hk; exact ⟨u, fun _ => hu⟩
  ·exact ⟨0, fun h => absurd h hk⟩
 have h3 := nodup_len adj.length ((List.range out.length).map fun k => ((Classical.choose (hex2 k) : Nat) : Int)) (by
  rw [List.nodup_iff_pairwise_ne, List.pairwise_map, List.pairwise_iff_getElem]
  intro i j hi hj hij
  simp at hi hj
  have a1 := Classical.choose_spec (hex2 i) hi
  have a2 := Classical.choose_spec (hex2 j) hj
  simp only [List.getElem_range]
  intro he
  have : Classical.choose (hex2 i) = Classical.choose (hex2 j) := by omega
  rw [this] at a1
  omega) (fun x hx => by
  rw [List.mem_map] at hx
  obtain ⟨k, hk, rfl⟩ := hx
  have a1 := Classical.choose_spec (hex2 k) (by simpa using hk)
  omega)
 simpa using h3

theorem asc_of {m : List Int} (h1 : m.Pairwise (· ≤ ·)) (h2 : m.Nodup) : m.Pairwise (· < ·) := by
 rw [List.pairwise_iff_getElem] at h1 ⊢
 intro i j hi hj hij
 have := h1 i j hi hj hij
 by_cases he : m[i] = m[j]
 ·have := nodup_inj h2 he; omega
 ·omega

theorem BF.step {adj : List (List Int)} (hG : Gr adj) (hn : adj.length ≤ 30) {root : Nat} {lev : Nat → Nat} {seen : List Bool} {out : List (List Int)} {now : List Int} (h : BF adj root lev seen out now) (hne : now ≠ []) :
  ∃ lev' seen' m, graph_levels_l27 adj (seen, out, now) = some (.inl (seen', out ++ [now], m)) ∧ BF adj root lev' seen' (out ++ [now]) m := by
 have hnow := h.lst out.length now (by simp)
 have hnl := asc_len hnow.1 hnow.2.1
 have hcnt := h.count
 obtain ⟨s, k1, k2, k3⟩ := bfs_mid hG hn hnow.2.1 (by omega) h.len h.see
 have hsl := nodup_len adj.length s.2 k2.nd (fun x hx => ⟨(k2.new x hx).1, (k2.new x hx).2.1⟩)
 obtain ⟨m, m1, m2, m3⟩ := sort_ok (l := s.2) (by omega)
 have hmem : ∀ x, x ∈ m ↔ x ∈ s.2 := fun x => m2.mem_iff
 have hasc := asc_of m3 (m2.nodup_iff.2 k2.nd)
 have hpos := List.length_pos_iff.2 hne
 refine ⟨fun u => if (u : Int) ∈ m then out.length + 2 else lev u, s.1, m, ?_, ?_⟩
 ·unfold graph_levels_l27
  simp only
  rw [if_pos (by omega), bindS (app_small (by simp; omega)), bindS k1, bindS m1]
 ·have hin : ∀ u : Nat, (u : Int) ∈ m → u < adj.length ∧ lev u = 0 := fun u hu => by
   have := k2.new _ ((hmem _).1 hu)
   simp at this
   exact ⟨by omega, this.2.1⟩
  have hL : ∀ u : Nat, (u : Int) ∉ m → (if (u : Int) ∈ m then out.length + 2 else lev u) = lev u := fun u hu => if_neg hu
  have hM : ∀ u : Nat, (u : Int) ∈ m → (if (u : Int) ∈ m then out.length + 2 else lev u) = out.length + 2 := fun u hu => if_pos hu
  refine ⟨k2.len, fun u hu => ?_, fun k l hk => ?_, fun u hu => ?_, fun l hl => ?_, fun u hu => ?_, fun v w hv hw h0 hle => ?_, fun u hu h2 => ?_⟩
  ·rw [k2.see u hu]
   congr 1
   rw [decide_eq_decide]
   by_cases hm : (u : Int) ∈ m
   ·simp only [hM u hm]; simp [(hmem _).1 hm]
   ·simp only [hL u hm]
    constructor
    ·rintro (h1 | h1)
     ·exact h1
     ·exact absurd ((hmem _).2 h1) hm
    ·exact .inl
  ·by_cases hk2 : k < (out ++ [now]).length
   ·rw [List.getElem?_append_left hk2] at hk
    have h1 := h.lst k l hk
    refine ⟨h1.1, h1.2.1, fun u hu => ?_⟩
    rw [h1.2.2 u hu]
    simp at hk2
    by_cases hm : (u : Int) ∈ m
    ·have hz := (hin u hm).2
     simp only [hM u hm]; omega
    ·simp only [hL u hm]
   ·rw [List.getElem?_append_right (by omega)] at hk
    have : k - (out ++ [now]).length = 0 ∧ l = m := by
     cases hkk : k - (out ++ [now]).length with
     | zero => rw [hkk] at hk; simp at hk; exact ⟨rfl, hk.symm⟩
     | succ j => rw [hkk] at hk; simp at hk
    obtain ⟨h4, rfl⟩ := this
    simp at h4 hk2
    refine ⟨hasc, fun x hx => ?_, fun u hu => ?_⟩
    ·have := k2.new x ((hmem x).1 hx); exact ⟨this.1, this.2.1⟩
    ·by_cases hm : (u : Int) ∈ l
     ·simp only [hm]; simp; omega
     ·have := h.top u hu
      simp only [hm]; simp; omega
  ·by_cases hm : (u : Int) ∈ m
   ·simp only [hM u hm]; simp
   ·have := h.top u hu
    simp only [hL u hm]; simp; omega
  ·rw [List.mem_append, List.mem_singleton] at hl
   rcases hl with hl | rfl
   ·exact h.ne l hl
   ·exact hne
  ·by_cases hm : (u : Int) ∈ m
   ·have h1 := h.rt u hu
    simp only [hM u hm]
    have := (hin u hm).2
    omega
   ·simp only [hL u hm]
    exact h.rt u hu
  ·by_cases hm : (v : Int) ∈ m
   ·simp only [hM v hm] at hle; simp at hle
   ·simp only [hL v hm] at h0 hle ⊢
    simp at hle
    by_cases hlv : lev v ≤ out.length
    ·have h1 := h.edge v w hv hw h0 hlv
     have hwm : (w : Int) ∉ m := fun hm2 => h1.1 (hin w hm2).2
     simp only [hL w hwm]
     exact h1
    ·have hvn : (v : Int) ∈ now := (hnow.2.2 v hv).2 (by omega)
     rcases k3 v w hvn hw with h1 | h1
     ·have hwm : (w : Int) ∉ m := fun hm2 => h1 (hin w hm2).2
      obtain ⟨l, h5, h6⟩ := hw
      have h7 := hG.rng v l _ h5 h6
      have := h.top w (by omega)
      simp only [hL w hwm]
      omega
     ·simp only [hM w ((hmem _).2 h1)]
      omega
  ·by_cases hm : (u : Int) ∈ m
   ·obtain ⟨_, _, _, v, h5, h6⟩ := k2.new _ ((hmem _).1 hm)
    have h7 := hnow.2.1 _ h5
    have h8 := (hnow.2.2 v (by omega)).1 h5
    have hvm : (v : Int) ∉ m := fun hm2 => by have := (hin v hm2).2; omega
    refine ⟨v, by omega, by simpa using h6, ?_⟩
    simp only [hM u hm, hL v hvm]
    omega
   ·simp only [hL u hm] at h2 ⊢
    obtain ⟨w, h5, h6, h7⟩ := h.back u hu h2
    have hwm : (w : Int) ∉ m := fun hm2 => by have := (hin w hm2).2; omega
    exact ⟨w, h5, h6, by simp only [hL w hwm]; exact h7⟩

theorem levels_ok {adj : List (List Int)} (hG : Gr adj) (hn : adj.length ≤ 30) {root : Nat} (hr : root < adj.length) : ∃ out lev seen, graph_levels adj (root : Int) = some out ∧ BF adj root lev seen out [] := by
 unfold graph_levels
 rw [bindS (mkL_nat false adj.length (by omega)), bindS (setI_lt (by simp; omega))]
 obtain ⟨o, h1, h2⟩ := whileG (step := graph_levels_l27 adj) (s := ((List.replicate adj.length false).set root true, [], [(root : Int)]))
  (fun s => ∃ lev, BF adj root lev s.1 s.2.1 s.2.2) (fun o => ∃ lev seen, BF adj root lev seen o []) (fun s => (adj.length + 1 - s.2.1.length) * 2 + s.2.2.length.min 1)
  ⟨fun u => if u = root then 1 else 0, by
   refine ⟨by simp, fun u hu => ?_, fun k l hk => ?_, fun u hu => ?_, fun l hl => by simp at hl, fun u hu => ?_, fun v w hv hw h0 hle => ?_, fun u hu h2 => ?_⟩
   ·simp only [List.getElem?_set]
    by_cases h : root = u
    ·subst h; simp; omega
    ·rw [if_neg h]; simp [hu, show ¬ u = root by omega]
   ·have : k = 0 ∧ l = [(root : Int)] := by
     cases k with
     | zero => simp at hk; exact ⟨rfl, hk.symm⟩
     | succ k => simp at hk
    obtain ⟨rfl, rfl⟩ := this
    refine ⟨by simp, fun x hx => by simp at hx; omega, fun u hu => ?_⟩
    by_cases h : u = root
    ·subst h; simp
    ·simp [h]; omega
   ·split <;> simp
   ·by_cases h : u = root
    ·simp [h]
    ·simp [h]
   ·simp at hle
    exact absurd hle (by simpa using h0)
   ·split at h2 <;> omega⟩ (by simp only; simp; omega) (by
   rintro ⟨seen, out, now⟩ ⟨lev, hB⟩
   simp only at hB
   by_cases hne : now = []
   ·subst hne
    refine .inr ⟨out, ?_, lev, seen, hB⟩
    unfold graph_levels_l27
    simp
   ·obtain ⟨lev', seen', m, k1, k2⟩ := hB.step hG hn hne
    have hc := k2.count
    refine .inl ⟨_, k1, ⟨lev', k2⟩, ?_⟩
    have hpos := List.length_pos_iff.2 hne
    simp only [List.length_append, List.length_singleton] at hc ⊢
    have : m.length.min 1 ≤ 1 := Nat.min_le_right _ _
    omega)
 rw [bindS h1]
 obtain ⟨lev, seen, h⟩ := h2
 exact ⟨o, lev, seen, rfl, h⟩
end Pl
