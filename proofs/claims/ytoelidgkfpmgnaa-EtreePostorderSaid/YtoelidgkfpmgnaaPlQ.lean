/- The document's parents, and the law of the making of the tree over the models. -/
import Derived.Test.YtoelidgkfpmgnaaPlP
namespace Pl
open Sx Go M

theorem Ts.congr {T : List (List Bool)} {n : Nat} {R R' : Nat → Nat → Prop} (h : ∀ i j, i < n → j < n → (R i j ↔ R' i j)) (hT : Ts T n R) : Ts T n R' := by
  obtain ⟨b, h1, h2⟩ := hT
  exact ⟨b, h1, fun i j hi hj => (h2 i j hi hj).trans (h i j hi hj)⟩
theorem Ts.set {T : List (List Bool)} {n : Nat} {R : Nat → Nat → Prop} (hT : Ts T n R) {i j : Nat} (hi : i < n) {r : List Bool} (hr : T[i]? = some r) : Ts (T.set i (r.set j true)) n (fun a c => (a = i ∧ c = j) ∨ R a c) := by
  obtain ⟨b, h1, h2⟩ := hT
  refine ⟨_, h1.set hi hr, fun a c ha hc => ?_⟩
  simp only
  by_cases h : a = i ∧ c = j
  · rw [if_pos h]; simp [h]
  · rw [if_neg h, h2 a c ha hc]
    exact ⟨.inr, fun h3 => h3.resolve_left h⟩
theorem Ts.row {T : List (List Bool)} {n : Nat} {R : Nat → Nat → Prop} (hT : Ts T n R) {i : Nat} (hi : i < n) : ∃ r, T[i]? = some r ∧ r.length = n := by
  obtain ⟨b, h1, _⟩ := hT
  obtain ⟨r, h3, h4, _⟩ := h1.2 i hi
  exact ⟨r, h3, h4⟩

def nl (b : Nat → Nat → Bool) (k : Nat) : Nat → List Int
  | 0 => []
  | m + 1 => nl b k m ++ (if b k m = true ∧ ¬ m < k then [(m : Int)] else [])
theorem nl_mem {b : Nat → Nat → Bool} {k : Nat} {x : Int} : ∀ m, x ∈ nl b k m ↔ 0 ≤ x ∧ x.toNat < m ∧ b k x.toNat = true ∧ ¬ x.toNat < k := by
  intro m
  induction m with
  | zero => simp [nl]
  | succ m ih =>
    rw [nl, List.mem_append, ih]
    constructor
    · rintro (h | h)
      · exact ⟨h.1, by omega, h.2.2⟩
      · split at h
        · rename_i hc
          simp only [List.mem_singleton] at h; subst h
          exact ⟨by omega, by omega, by simpa using hc⟩
        · simp at h
    · rintro ⟨h1, h2, h3⟩
      by_cases hx : x.toNat = m
      · right
        rw [hx] at h3
        rw [if_pos h3]
        simp; omega
      · exact .inl ⟨h1, by omega, h3⟩
theorem nl_asc {b : Nat → Nat → Bool} {k : Nat} : ∀ m, (nl b k m).Pairwise (· < ·) := by
  intro m
  induction m with
  | zero => exact .nil
  | succ m ih =>
    rw [nl, List.pairwise_append]
    refine ⟨ih, ?_, ?_⟩
    · split <;> simp
    · intro x hx y hy
      have := (nl_mem m).1 hx
      split at hy
      · simp at hy; omega
      · simp at hy
theorem nl_len {b : Nat → Nat → Bool} {k : Nat} : ∀ m, (nl b k m).length ≤ m := by
  intro m
  induction m with
  | zero => simp [nl]
  | succ m ih => rw [nl, List.length_append]; split <;> simp <;> omega

def Gone (g : List Bool) (n k : Nat) : Prop := g.length = n ∧ ∀ j, j < n → g[j]? = some (decide (j < k))

theorem neigh_ok {T : List (List Bool)} {n k : Nat} {R : Nat → Nat → Prop} {g : List Bool} (hT : Ts T n R) (hg : Gone g n k) (hk : k < n) (hn : n ≤ 1000) :
    ∃ L : List Int, sparseref16_Elimination_Neighbours T g (k : Int) = some L ∧ L.Pairwise (· < ·) ∧ L.length ≤ n ∧ ∀ x, x ∈ L ↔ 0 ≤ x ∧ x.toNat < n ∧ R k x.toNat ∧ k ≤ x.toNat := by
  obtain ⟨b, h1, h2⟩ := hT
  obtain ⟨r, g1, _, _, g3⟩ := h1.get hk
  have hTl := h1.1
  unfold sparseref16_Elimination_Neighbours
  obtain ⟨o, k1, k2⟩ := forG (step := sparseref16_Elimination_Neighbours_l5 T (k : Int) g) (fun j (s : List Int) => (s, (j : Int))) n (by omega) (fun j s => s = nl b k j) (fun o => o = nl b k n) (s0 := []) rfl (by
    intro j s hj hI
    subst hI
    have hgj : getI g (j : Int) = some (decide (j < k)) := hg.2 j hj
    have hlen := nl_len (b := b) (k := k) j
    have hq : ∃ q : Bool, (q = true ↔ (b k j = true ∧ ¬ j < k)) ∧ (if b k j = true then (getI g (j : Int)).bind fun x60 => some (!(x60)) else some false) = some q := by
      by_cases hb : b k j = true
      · rw [if_pos hb, hgj]
        exact ⟨!(decide (j < k)), by simp [hb], rfl⟩
      · rw [if_neg hb]
        exact ⟨false, by simp [hb], rfl⟩
    obtain ⟨q, hq1, hq2⟩ := hq
    unfold sparseref16_Elimination_Neighbours_l5
    simp only
    rw [if_pos (by omega), bindS g1, bindS (g3 j hj), bindS hq2]
    unfold sparseref16_Elimination_Neighbours_j7
    by_cases hqt : q = true
    · rw [if_pos hqt, bindS (app_small (by simp; omega)), wa1 (by omega)]
      exact .inl ⟨_, rfl, by rw [nl, if_pos (hq1.1 hqt)]⟩
    · rw [if_neg hqt, wa1 (by omega)]
      exact .inl ⟨_, rfl, by rw [nl, if_neg (fun hh => hqt (hq1.2 hh))]; simp⟩) (by
    intro s hI
    subst hI
    unfold sparseref16_Elimination_Neighbours_l5
    simp only
    rw [if_neg (by omega)]
    exact ⟨_, rfl, rfl⟩)
  have k1' : loop (sparseref16_Elimination_Neighbours_l5 T (k : Int) g) ([], 0) = some o := k1
  rw [bindS k1', k2]
  refine ⟨_, rfl, nl_asc n, nl_len n, fun x => ?_⟩
  rw [nl_mem]
  constructor
  · rintro ⟨h3, h4, h5, h6⟩
    exact ⟨h3, h4, (h2 k _ hk h4).1 h5, by omega⟩
  · rintro ⟨h3, h4, h5, h6⟩
    exact ⟨h3, h4, (h2 k _ hk h4).2 h5, by omega⟩

theorem elim_ok {T : List (List Bool)} {n k : Nat} {R : Nat → Nat → Prop} {g : List Bool} (hT : Ts T n R) (hg : Gone g n k) (hk : k < n) (hn : n ≤ 1000) :
    ∃ T' g', sparseref16_Elimination_Eliminate T g (k : Int) = some (T', g') ∧ Gone g' n (k + 1) ∧ Ts T' n (fun i j => R i j ∨ (i ≠ j ∧ k ≤ i ∧ k ≤ j ∧ R k i ∧ R k j)) := by
  obtain ⟨L, h1, h2, h3, h4⟩ := neigh_ok hT hg hk hn
  unfold sparseref16_Elimination_Eliminate
  rw [bindS h1]
  obtain ⟨o, k1, k2⟩ := forG (step := sparseref16_Elimination_Eliminate_l9 L) (fun p (s : List (List Bool)) => (s, (p : Int))) L.length (by omega)
    (fun p s => Ts s n (fun i j => R i j ∨ (i ≠ j ∧ (i : Int) ∈ L.take p ∧ (j : Int) ∈ L))) (fun o => Ts o n (fun i j => R i j ∨ (i ≠ j ∧ (i : Int) ∈ L ∧ (j : Int) ∈ L))) (s0 := T) (hT.congr fun i j _ _ => by simp) (by
      intro p s hp hI
      have hr := (h4 _).1 (List.getElem_mem hp)
      obtain ⟨o, k1, k2⟩ := forG (step := sparseref16_Elimination_Eliminate_l12 L (p : Int)) (fun q (s : List (List Bool)) => (s, (q : Int))) L.length (by omega)
        (fun q s => Ts s n (fun i j => R i j ∨ (i ≠ j ∧ (i : Int) ∈ L.take p ∧ (j : Int) ∈ L) ∨ (i ≠ j ∧ (i : Int) = L[p] ∧ (j : Int) ∈ L.take q)))
        (fun o => Ts o n (fun i j => R i j ∨ (i ≠ j ∧ (i : Int) ∈ L.take (p + 1) ∧ (j : Int) ∈ L))) (s0 := s) (hI.congr fun i j _ _ => by simp) (by
          intro q s hq hI
          have hrq := (h4 _).1 (List.getElem_mem hq)
          unfold sparseref16_Elimination_Eliminate_l12
          simp only
          rw [if_pos (by omega)]
          unfold sparseref16_Elimination_Eliminate_j13
          by_cases hpq : p = q
          · subst hpq
            rw [if_pos rfl, wa1 (by omega)]
            refine .inl ⟨s, rfl, hI.congr fun i j hi hj => ?_⟩
            rw [take_succ' hq, List.mem_append, List.mem_singleton]
            constructor
            · rintro (h | h | ⟨h5, h6, h7⟩)
              · exact .inl h
              · exact .inr (.inl h)
              · exact .inr (.inr ⟨h5, h6, .inl h7⟩)
            · rintro (h | h | ⟨h5, h6, h7 | h7⟩)
              · exact .inl h
              · exact .inr (.inl h)
              · exact .inr (.inr ⟨h5, h6, h7⟩)
              · omega
          · have hne : L[p] ≠ L[q] := by
              rcases Nat.lt_or_gt_of_ne hpq with h5 | h5
              · have := asc_get h2 hq h5; omega
              · have := asc_get h2 hp h5; omega
            obtain ⟨r, hr1, hr2⟩ := hI.row hr.2.1
            have hgr : getI s L[p] = some r := getI_of hr.1 hr1
            obtain ⟨b, hb1, _⟩ := id hI
            rw [if_neg (by omega), bindS (getI_lt hp), bindS hgr, bindS (getI_lt hq), bindS (setI_of hrq.1 (by omega)), bindS (setI_of hr.1 (by rw [hb1.1]; exact hr.2.1)), wa1 (by omega)]
            refine .inl ⟨_, rfl, (hI.set hr.2.1 hr1).congr fun i j hi hj => ?_⟩
            rw [take_succ' hq, List.mem_append, List.mem_singleton]
            constructor
            · rintro (⟨h5, h6⟩ | h | h | ⟨h5, h6, h7⟩)
              · exact .inr (.inr ⟨by omega, by omega, .inr (by omega)⟩)
              · exact .inl h
              · exact .inr (.inl h)
              · exact .inr (.inr ⟨h5, h6, .inl h7⟩)
            · rintro (h | h | ⟨h5, h6, h7 | h7⟩)
              · exact .inr (.inl h)
              · exact .inr (.inr (.inl h))
              · exact .inr (.inr (.inr ⟨h5, h6, h7⟩))
              · exact .inl ⟨by omega, by omega⟩) (by
          intro s hI
          unfold sparseref16_Elimination_Eliminate_l12
          simp only
          rw [if_neg (by omega)]
          refine ⟨_, rfl, hI.congr fun i j hi hj => ?_⟩
          rw [take_succ' hp, List.mem_append, List.mem_singleton, List.take_of_length_le (Nat.le_refl _)]
          constructor
          · rintro (h | ⟨h5, h6, h7⟩ | ⟨h5, h6, h7⟩)
            · exact .inl h
            · exact .inr ⟨h5, .inl h6, h7⟩
            · exact .inr ⟨h5, .inr h6, h7⟩
          · rintro (h | ⟨h5, h6 | h6, h7⟩)
            · exact .inl h
            · exact .inr (.inl ⟨h5, h6, h7⟩)
            · exact .inr (.inr ⟨h5, h6, h7⟩))
      have k1' : loop (sparseref16_Elimination_Eliminate_l12 L (p : Int)) (s, 0) = some o := k1
      unfold sparseref16_Elimination_Eliminate_l9
      simp only
      rw [if_pos (by omega), bindS k1', wa1 (by omega)]
      exact .inl ⟨_, rfl, k2⟩) (by
      intro s hI
      unfold sparseref16_Elimination_Eliminate_l9
      simp only
      rw [if_neg (by omega)]
      refine ⟨_, rfl, hI.congr fun i j hi hj => ?_⟩
      rw [List.take_of_length_le (Nat.le_refl _)])
  have k1' : loop (sparseref16_Elimination_Eliminate_l9 L) (T, 0) = some o := k1
  rw [bindS k1', bindS (setI_lt (by rw [hg.1]; exact hk))]
  refine ⟨o, _, rfl, ⟨by simp [hg.1], fun j hj => ?_⟩, k2.congr fun i j hi hj => ?_⟩
  · rw [List.getElem?_set]
    by_cases hkj : k = j
    · rw [if_pos hkj, if_pos (by rw [hg.1]; exact hk), decide_eq_true (by omega)]
    · rw [if_neg hkj, hg.2 j hj]
      congr 1
      rw [decide_eq_decide]; omega
  · rw [h4, h4]
    simp only [Int.toNat_natCast]
    constructor
    · rintro (h | ⟨h5, h6, h7⟩)
      · exact .inl h
      · exact .inr ⟨h5, h6.2.2.2, h7.2.2.2, h6.2.2.1, h7.2.2.1⟩
    · rintro (h | ⟨h5, h6, h7, h8, h9⟩)
      · exact .inl h
      · exact .inr ⟨h5, ⟨by omega, hi, h8, h6⟩, ⟨by omega, hj, h9, h7⟩⟩

theorem rParent_ok {adj : List (List Int)} (hG : Gr adj) (hn : adj.length ≤ 200) : ∃ out : List Int, sparseref19_Parent adj = some (out, 0) ∧ out.length = adj.length ∧
    ∀ u, u < adj.length → ∃ p, out[u]? = some p ∧ ((p = -1 ∧ ∀ w, ¬ NN adj u w) ∨ (0 ≤ p ∧ Isq adj u p.toNat)) := by
  unfold sparseref19_Parent
  obtain ⟨T, t1, t2⟩ := table_ok hG (by omega)
  have hb : sparseref16_Begin adj = some (T, List.replicate adj.length false) := by
    unfold sparseref16_Begin
    rw [bindS t1, bindS (mkL_nat false adj.length (by omega))]
  rw [bindS (rCheck_ok hG hn), if_pos rfl, bindS hb]
  obtain ⟨o, k1, k2⟩ := forG (step := sparseref19_Parent_l3 adj) (fun k (s : List (List Bool) × List Bool × List Int) => (s.1, s.2.1, s.2.2, (k : Int))) adj.length (by omega)
    (fun k s => Ts s.1 adj.length (EE adj k) ∧ Gone s.2.1 adj.length k ∧ s.2.2.length = k ∧ ∀ u, u < k → ∃ p, s.2.2[u]? = some p ∧ ((p = -1 ∧ ∀ w, ¬ NN adj u w) ∨ (0 ≤ p ∧ Isq adj u p.toNat)))
    (fun o => o.length = adj.length ∧ ∀ u, u < adj.length → ∃ p, o[u]? = some p ∧ ((p = -1 ∧ ∀ w, ¬ NN adj u w) ∨ (0 ≤ p ∧ Isq adj u p.toNat))) (s0 := (T, List.replicate adj.length false, []))
    ⟨t2, ⟨by simp, fun j hj => by simp [hj]⟩, rfl, fun u hu => by omega⟩ (by
      rintro k ⟨T, g, out⟩ hk ⟨hT, hg, hl, ho⟩
      simp only at hT hg hl ho
      obtain ⟨L, n1, n2, n3, n4⟩ := neigh_ok hT hg hk (by omega)
      obtain ⟨T', g', e1, e2, e3⟩ := elim_ok hT hg hk (by omega)
      have fin : ∀ p : Int, ((p = -1 ∧ ∀ w, ¬ NN adj k w) ∨ (0 ≤ p ∧ Isq adj k p.toNat)) → ∃ s' : List (List Bool) × List Bool × List Int, sparseref19_Parent_j4 out T g (k : Int) p = some (.inl (s'.1, s'.2.1, s'.2.2, ((k + 1 : Nat) : Int))) ∧
          (Ts s'.1 adj.length (EE adj (k + 1)) ∧ Gone s'.2.1 adj.length (k + 1) ∧ s'.2.2.length = k + 1 ∧ ∀ u, u < k + 1 → ∃ p, s'.2.2[u]? = some p ∧ ((p = -1 ∧ ∀ w, ¬ NN adj u w) ∨ (0 ≤ p ∧ Isq adj u p.toNat))) := by
        intro p hp
        unfold sparseref19_Parent_j4
        rw [bindS (app_small (by simp; omega)), bindS e1, wa1 (by omega)]
        refine ⟨(T', g', out ++ [p]), rfl, e3, e2, by simp [hl], fun u hu => ?_⟩
        by_cases huk : u = k
        · subst huk
          exact ⟨p, by rw [List.getElem?_append_right (by omega), hl]; simp, hp⟩
        · obtain ⟨p', h5, h6⟩ := ho u (by omega)
          exact ⟨p', by rw [List.getElem?_append_left (by omega), h5], h6⟩
      unfold sparseref19_Parent_l3
      simp only
      rw [if_pos (by omega), bindS n1]
      left
      by_cases h0 : 0 < L.length
      · have hL0 : getI L 0 = some L[0] := getI_lt (k := 0) h0
        rw [if_pos (by omega), bindS hL0]
        have hm := (n4 _).1 (List.getElem_mem h0)
        have hkne : k ≠ L[0].toNat := by
          intro h
          have := hm.2.2.1
          rw [← h] at this
          exact EE.irr hG k k this
        refine fin L[0] (.inr ⟨hm.1, ⟨hm.2.2.1, by omega⟩, fun w hw => ?_⟩)
        have hwl := EE.lt hG _ _ _ hw.1
        have : (w : Int) ∈ L := (n4 _).2 ⟨by omega, by simpa using hwl, by simpa using hw.1, by have := hw.2; simp; omega⟩
        obtain ⟨i, hi, he⟩ := List.mem_iff_getElem.1 this
        by_cases hi0 : i = 0
        · subst hi0; omega
        · have := asc_get n2 hi (i := 0) (by omega)
          omega
      · rw [if_neg (by omega)]
        refine fin (-1) (.inl ⟨rfl, fun w hw => ?_⟩)
        have hwl := EE.lt hG _ _ _ hw.1
        have : (w : Int) ∈ L := (n4 _).2 ⟨by omega, by simpa using hwl, by simpa using hw.1, by have := hw.2; simp; omega⟩
        have := List.length_pos_of_mem this
        omega) (by
      rintro ⟨T, g, out⟩ ⟨hT, hg, hl, ho⟩
      simp only at hT hg hl ho
      unfold sparseref19_Parent_l3
      simp only
      rw [if_neg (by omega)]
      exact ⟨_, rfl, hl, ho⟩)
  have k1' : loop (sparseref19_Parent_l3 adj) (T, List.replicate adj.length false, [], 0) = some o := k1
  rw [bindS k1']
  exact ⟨o, rfl, k2⟩

/-- the tree by joining is the document's -/
theorem parents_same {adj : List (List Int)} (hG : Gr adj) (hn : adj.length ≤ 200) : ∃ par, etree_Parent adj = some (par, 0) ∧ sparseref19_Parent adj = some (par, 0) ∧ par.length = adj.length ∧ Fo par := by
  obtain ⟨par, h1, h2, hF, hE, hq⟩ := parent_ok hG hn (QP adj) (fun u p h => by have := rep_mem h; omega)
    (fun v w u0 l par h1 h2 h3 hE hinc _ hq hup h4 h5 => qp_step hG h1 h2 h3 hE (fun u p h => (hinc u p h).imp id (·.1)) hq hup h4 h5)
  obtain ⟨out, h3, h4, h5⟩ := rParent_ok hG hn
  refine ⟨par, h1, ?_, h2, hF⟩
  have : out = par := by
    apply List.ext_getElem?
    intro u
    by_cases hu : u < adj.length
    · obtain ⟨p, h6, h7⟩ := h5 u hu
      have hg : par[u]? = some par[u] := by simp [show u < par.length by omega]
      rw [h6, hg]
      congr 1
      rcases hF u (by omega) _ hg with h8 | h8
      · rw [h8] at hg ⊢
        have hno := qp_all hG hq hE u hg
        rcases h7 with h7 | h7
        · exact h7.1
        · exact absurd h7.2.1 (hno _)
      · have hi := hq u par[u].toNat (by rw [hg]; congr 1; omega)
        rcases h7 with h7 | h7
        · exact absurd hi.1 (h7.2 _)
        · have := hi.uniq h7.2
          omega
    · rw [List.getElem?_eq_none (by omega), List.getElem?_eq_none (by omega)]
  rw [h3, this]

theorem etreeMade_true (x : Int) (x2 : List Int) : sparselaw19_EtreeMade x x2 = some true := by
  unfold sparselaw19_EtreeMade
  by_cases hc : (80 : Int) < (x2.length : Int)
  · rw [if_pos hc, awake19]; rfl
  · rw [if_neg hc]
    obtain ⟨n, hp, hn⟩ := place_ok x 13 (by omega) (by omega)
    have hp' : sparsekit_Place x 13 = some (n : Int) := hp
    obtain ⟨b, hb⟩ := graph_ok (n := n) (by omega) x2 (by omega)
    have hG := nbr_gr b n
    have hadjl : ((List.range n).map fun k => nbr b k n).length = n := by simp
    generalize hadj : ((List.range n).map fun k => nbr b k n) = adj at hb hG hadjl
    subst hadjl
    obtain ⟨par, h1, h2, h3, hF⟩ := parents_same hG (by omega)
    have h20 : par.length ≤ 20 := by omega
    have h4 := POk_len (par := par) FUEL par.length (-1)
    have h6 := pow20 h20
    rw [bindS hp', bindS hb, bindS h1, bindS h2, if_pos rfl, bindS (ints_spec par par (by omega))]
    simp only [decide_true, Bool.not_true, Option.bind_some, Bool.false_eq_true, if_false]
    rw [bindS (post_e h20 hF), bindS (post_r h20 hF), bindS (depths_e (by omega) hF), bindS (depths_r (by omega) hF), bindS (sizes_e (by omega) hF), bindS (sizes_r (by omega) hF)]
    rw [ints_spec _ _ (by simp only; omega), ints_spec _ _ (by simp; omega), ints_spec _ _ (by simp; omega), awake19]
    simp
end Pl
