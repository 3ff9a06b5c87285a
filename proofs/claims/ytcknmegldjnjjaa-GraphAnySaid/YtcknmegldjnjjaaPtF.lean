/- The document's peripheral vertices and components; the law of the graphs made from numbers. -/
import Derived.Test.YtcknmegldjnjjaaPtE
import Derived.Test.YtcknmegldjnjjaaPtC
set_option linter.unusedSimpArgs false
set_option linter.unusedVariables false
namespace Pl
open Sx Go M Vc

/-- two loops that go in step -/
theorem loopN_sim {σ τ ρ ρ' : Type} {step1 : σ → Option (σ ⊕ ρ)} {step2 : τ → Option (τ ⊕ ρ')} (R : σ → τ → Prop) (Q : ρ → ρ' → Prop)
    (h : ∀ s t, R s t → (∀ s', step1 s = some (.inl s') → ∃ t', step2 t = some (.inl t') ∧ R s' t') ∧ (∀ o, step1 s = some (.inr o) → ∃ o', step2 t = some (.inr o') ∧ Q o o')) :
    ∀ (k : Nat) (s : σ) (t : τ) (o : ρ), R s t → loopN step1 k s = some o → ∃ o', loopN step2 k t = some o' ∧ Q o o' := by
  intro k
  induction k with
  | zero => intro s t o _ h; simp [loopN] at h
  | succ k ih =>
    intro s t o hR ho
    simp only [loopN] at ho
    cases hs : step1 s with
    | none => rw [hs] at ho; cases ho
    | some r =>
      rw [hs] at ho
      cases r with
      | inl s' =>
        obtain ⟨t', h1, h2⟩ := (h s t hR).1 s' hs
        obtain ⟨o', h3, h4⟩ := ih s' t' o h2 ho
        exact ⟨o', by simp [loopN, h1, h3], h4⟩
      | inr o1 =>
        obtain rfl := Option.some.inj ho
        obtain ⟨o', h1, h2⟩ := (h s t hR).2 o1 hs
        exact ⟨o', by simp [loopN, h1], h2⟩
theorem loop_sim {σ τ ρ ρ' : Type} {step1 : σ → Option (σ ⊕ ρ)} {step2 : τ → Option (τ ⊕ ρ')} (R : σ → τ → Prop) (Q : ρ → ρ' → Prop) {s : σ} {t : τ} {o : ρ} (hR : R s t)
    (h : ∀ s t, R s t → (∀ s', step1 s = some (.inl s') → ∃ t', step2 t = some (.inl t') ∧ R s' t') ∧ (∀ o, step1 s = some (.inr o) → ∃ o', step2 t = some (.inr o') ∧ Q o o')) (ho : loop step1 s = some o) : ∃ o', loop step2 t = some o' ∧ Q o o' :=
  loopN_sim R Q h FUEL s t o hR ho

def dg (adj : List (List Int)) (u : Int) : Nat := (adj[u.toNat]?.getD []).length
def bst (adj : List (List Int)) : Int → List Int → Int
  | w, [] => w
  | w, u :: r => bst adj (if dg adj u < dg adj w then u else w) r
theorem dg_get {adj : List (List Int)} {u : Int} (h : 0 ≤ u ∧ u < adj.length) : ∃ l, getI adj u = some l ∧ l.length = dg adj u := by
  have hu : u.toNat < adj.length := by omega
  refine ⟨adj[u.toNat], getI_of h.1 (by simp [hu]), by simp [dg, hu]⟩
theorem drop_at {l : List Int} {k : Nat} (h : k < l.length) : l.drop k = l[k] :: l.drop (k + 1) := by rw [List.drop_eq_getElem_cons h]

theorem bst_p {adj : List (List Int)} {l : List Int} (hl : l.length ≤ 1000) (hr : ∀ x, x ∈ l → 0 ≤ x ∧ x < adj.length) {w : Int} (hw : 0 ≤ w ∧ w < adj.length) : loop (graph_Peripheral_l13 l adj) (w, 0) = some (bst adj w l) := by
  refine Ret.eq ?_
  refine ret_loop l.length (fun k (s : Int × Int) => s.2 = k ∧ (0 ≤ s.1 ∧ s.1 < adj.length) ∧ bst adj s.1 (l.drop k) = bst adj w l) ⟨rfl, hw, rfl⟩ ?_
  rintro k ⟨s, i⟩ hk ⟨rfl, hs, hb⟩
  simp only at hs hb
  unfold graph_Peripheral_l13 graph_Peripheral_j14
  by_cases hkl : k < l.length
  · have hx := hr _ (List.getElem_mem hkl)
    obtain ⟨a, a1, a2⟩ := dg_get hx
    obtain ⟨b, b1, b2⟩ := dg_get hs
    have e1 : getI l (k : Int) = some l[k] := getI_lt hkl
    have e5 : (k : Int) < (l.length : Int) := by omega
    have hw1 : wa .i64 (k : Int) 1 = ((k + 1 : Nat) : Int) := wa1 (by omega)
    rw [drop_at hkl, bst] at hb
    simp only [ret_bind, ret_if, ret_get, ret_set, ret_app, ret_mkL, ret_sli, ret_wr, ret_wq, ret_some, vq_l, vq_r, Int.toNat_natCast, if_true, if_false, obs, decide_false, decide_true, Bool.false_eq_true, Bool.not_true, Bool.not_false, not_true_eq_false, not_false_eq_true, true_implies, false_implies, reduceCtorEq, e1, e5, a1, b1, hw1, a2, b2]
    refine ⟨fun h => ⟨hkl, trivial, hx, ?_⟩, fun h => ⟨hkl, trivial, hs, ?_⟩⟩
    · rw [if_pos (by omega)] at hb; exact hb
    · rw [if_neg (by omega)] at hb; exact hb
  · have e5 : ¬ (k : Int) < (l.length : Int) := by omega
    simp only [ret_bind, ret_if, ret_get, ret_set, ret_app, ret_mkL, ret_sli, ret_wr, ret_wq, ret_some, vq_l, vq_r, Int.toNat_natCast, if_true, if_false, obs, decide_false, decide_true, Bool.false_eq_true, Bool.not_true, Bool.not_false, not_true_eq_false, not_false_eq_true, true_implies, false_implies, reduceCtorEq, e5]
    rw [List.drop_of_length_le (by omega)] at hb
    exact hb
theorem bst_r {adj : List (List Int)} {l : List Int} (hl : l.length ≤ 1000) (hr : ∀ x, x ∈ l → 0 ≤ x ∧ x < adj.length) (hne : 0 < l.length) : loop (sparseref12_Peripheral_l14 l adj) (l[0], 1) = some (bst adj l[0] l) := by
  refine Ret.eq ?_
  have h0 : bst adj l[0] (l.drop 0) = bst adj l[0] (l.drop 1) := by
    rw [drop_at hne]
    show bst adj (if dg adj l[0] < dg adj l[0] then l[0] else l[0]) _ = _
    rw [if_neg (by omega)]
  rw [List.drop_zero] at h0
  refine ret_loop l.length (fun k (s : Int × Int) => s.2 = ((k + 1 : Nat) : Int) ∧ (0 ≤ s.1 ∧ s.1 < adj.length) ∧ bst adj s.1 (l.drop (k + 1)) = bst adj l[0] l) ⟨rfl, hr _ (List.getElem_mem hne), h0.symm⟩ ?_
  rintro k ⟨s, i⟩ hk ⟨h, hs, hb⟩
  simp only at h hs hb
  subst h
  unfold sparseref12_Peripheral_l14 sparseref12_Peripheral_j15
  by_cases hkl : k + 1 < l.length
  · have hx := hr _ (List.getElem_mem hkl)
    obtain ⟨a, a1, a2⟩ := dg_get hx
    obtain ⟨b, b1, b2⟩ := dg_get hs
    have e1 : getI l ((k + 1 : Nat) : Int) = some l[k + 1] := getI_lt hkl
    have e5 : ((k + 1 : Nat) : Int) < (l.length : Int) := by omega
    have hw1 : wa .i64 ((k + 1 : Nat) : Int) 1 = ((k + 1 + 1 : Nat) : Int) := wa1 (by omega)
    rw [drop_at hkl, bst] at hb
    simp only [ret_bind, ret_if, ret_get, ret_set, ret_app, ret_mkL, ret_sli, ret_wr, ret_wq, ret_some, vq_l, vq_r, Int.toNat_natCast, if_true, if_false, obs, decide_false, decide_true, Bool.false_eq_true, Bool.not_true, Bool.not_false, not_true_eq_false, not_false_eq_true, true_implies, false_implies, reduceCtorEq, e1, e5, a1, b1, hw1, a2, b2]
    refine ⟨fun h => ⟨by omega, trivial, hx, ?_⟩, fun h => ⟨by omega, trivial, hs, ?_⟩⟩
    · rw [if_pos (by omega)] at hb; exact hb
    · rw [if_neg (by omega)] at hb; exact hb
  · have e5 : ¬ ((k + 1 : Nat) : Int) < (l.length : Int) := by omega
    simp only [ret_bind, ret_if, ret_get, ret_set, ret_app, ret_mkL, ret_sli, ret_wr, ret_wq, ret_some, vq_l, vq_r, Int.toNat_natCast, if_true, if_false, obs, decide_false, decide_true, Bool.false_eq_true, Bool.not_true, Bool.not_false, not_true_eq_false, not_false_eq_true, true_implies, false_implies, reduceCtorEq, e5]
    rw [List.drop_of_length_le (by omega)] at hb
    exact hb

theorem far_same {adj : List (List Int)} {out : List (List Int)} (hlen : 0 < out.length) (hl2 : out.length ≤ 1000) (hne : ∀ l, l ∈ out → l ≠ []) (hr : ∀ l, l ∈ out → ∀ x, x ∈ l → 0 ≤ x ∧ x < adj.length) (hsz : ∀ l, l ∈ out → l.length ≤ 1000) {w : Int} (h : farR adj out = some w) :
    ((getI out (ws .i64 (out.length : Int) 1)).bind fun x102 => (getI x102 0).bind fun x104 => loop (sparseref12_Peripheral_l14 x102 adj) (x104, 1)) = some w := by
  unfold farR at h
  have e : ws .i64 (out.length : Int) 1 = ((out.length - 1 : Nat) : Int) := by rw [ws_i (by omega) (by omega)]; omega
  have hk : out.length - 1 < out.length := by omega
  rw [e, bindS (getI_lt hk)] at h ⊢
  have hm := List.getElem_mem hk
  generalize out[out.length - 1] = l at hm h ⊢
  have hlp := List.length_pos_iff.2 (hne l hm)
  have hll := hsz l hm
  have hg0 : getI l 0 = some l[0] := getI_lt hlp
  rw [bindS hg0] at h ⊢
  rw [bst_p hll (hr l hm) (hr l hm _ (List.getElem_mem hlp))] at h
  rw [bst_r hll (hr l hm) hlp]
  exact h

theorem rper_ok {adj : List (List Int)} (hG : Gr adj) (hn : adj.length ≤ 12) {v : Nat} (hv : v < adj.length) {p : Int} (hp : graph_Peripheral adj (v : Int) = some p) : sparseref12_Peripheral adj (v : Int) = some p := by
  have hchk := graphCheck_ok hG (show adj.length ≤ 200 by omega)
  obtain ⟨a, lev, seen, c, a1, a2, a3, a4⟩ := levels_cls hG hn hv
  unfold graph_Peripheral graph_vertex at hp
  have e2 : (v : Int) < (adj.length : Int) := by omega
  have e3 : (0 : Int) ≤ (v : Int) := by omega
  rw [bindS hchk] at hp
  simp only [e2, e3, if_pos, decide_true, Bool.and_self, Option.bind_some, Bool.not_true, Bool.false_eq_true, if_false, a1] at hp
  obtain ⟨o, ho, hp⟩ := bs hp
  obtain rfl := Option.some.inj hp
  obtain ⟨o', h1, rfl⟩ := loop_sim (step1 := graph_Peripheral_l10 adj) (step2 := sparseref12_Peripheral_l11 adj) (fun s t => t = s.1 ∧ ∃ q : Nat, s.1 = (q : Int) ∧ q < adj.length ∧ graph_levels adj s.1 = some s.2) (fun o o' => o' = o) (s := ((v : Int), a)) (t := (v : Int)) ⟨rfl, v, rfl, hv, a1⟩ (by
    rintro ⟨s, now⟩ t ⟨rfl, q, rfl, hq, hnow⟩
    simp only at hnow
    obtain ⟨now', lev', seen', c', g1, g2, g3, g4⟩ := levels_cls hG hn hq
    rw [hnow] at g1
    obtain rfl := Option.some.inj g1
    obtain ⟨p1, p2, p3, p4, p5⟩ := bf_pre g2 hq hn
    obtain ⟨w, w1, w2, w3, w4⟩ := far_ok p1 (by omega) p3 p4 p5
    obtain ⟨u, rfl⟩ := Int.eq_ofNat_of_zero_le w3
    have hu : u < adj.length := by omega
    obtain ⟨r, lev2, seen2, c2, k1, k2, k3, k4⟩ := levels_cls hG hn hu
    obtain ⟨ro, rl, rs, r1, r2⟩ := rLevels_ok hG hn hq
    obtain rfl := g2.out_eq r2
    obtain ⟨so, sl, ss, s1, s2⟩ := rLevels_ok hG hn hu
    obtain rfl := k2.out_eq s2
    have hf := far_same p1 (by omega) p3 p4 p5 w1
    have hstep : sparseref12_Peripheral_l11 adj (q : Int) = if (r.length : Int) ≤ (now.length : Int) then some (.inr (q : Int)) else some (.inl (u : Int)) := by
      unfold sparseref12_Peripheral_l11
      rw [bindS r1]
      obtain ⟨l, f1, hf⟩ := bs hf
      obtain ⟨x, f2, f3⟩ := bs hf
      rw [bindS f1, bindS f2, bindS f3, bindS s1]
    rw [per_step w1 k1, hstep]
    by_cases hc : (r.length : Int) ≤ (now.length : Int)
    · rw [if_pos hc, if_pos hc]
      refine ⟨fun s' h => (by cases h), fun o h => ⟨_, rfl, ?_⟩⟩
      have := Option.some.inj h
      exact Sum.inr.inj this
    · rw [if_neg hc, if_neg hc]
      refine ⟨fun s' h => ⟨_, rfl, ?_⟩, fun o h => (by cases h)⟩
      have := Sum.inl.inj (Option.some.inj h)
      subst this
      exact ⟨rfl, u, rfl, hu, k1⟩) ho
  unfold sparseref12_Peripheral
  rw [bindS (rCheck_ok hG (by omega)), if_neg (by simp; omega), bindS h1]

theorem rmark_ok {ls : List (List Int)} {n : Nat} (hl : ls.length ≤ 1000) (hs : ∀ l, l ∈ ls → l.length ≤ 1000) (hr : ∀ l, l ∈ ls → ∀ x, x ∈ l → 0 ≤ x ∧ x < (n : Int)) :
    Ret (loop (sparseref12_Components_l71 ls) (List.replicate n false, 0)) (fun t => t.length = n ∧ ∀ u : Nat, u < n → t[u]? = some (decide ((u : Int) ∈ ls.flatten))) := by
  refine ret_loop ls.length (fun k (t : List Bool × Int) => t.2 = k ∧ t.1.length = n ∧ ∀ u : Nat, u < n → t.1[u]? = some (decide ((u : Int) ∈ (ls.take k).flatten))) ⟨rfl, by simp, fun u hu => by simp [hu]⟩ ?_
  rintro k ⟨t, i⟩ hk ⟨rfl, h1, h2⟩
  simp only at h1 h2
  unfold sparseref12_Components_l71
  by_cases hkl : k < ls.length
  · obtain ⟨l, hx⟩ : ∃ l, ls[k]? = some l := ⟨ls[k], by simp [hkl]⟩
    have hll := hs l (mem_get hx)
    have hlr := hr l (mem_get hx)
    have e1 : getI ls (k : Int) = some l := hx
    have e5 : (k : Int) < (ls.length : Int) := by omega
    have hw : wa .i64 (k : Int) 1 = ((k + 1 : Nat) : Int) := wa1 (by omega)
    simp only [ret_bind, ret_if, ret_get, ret_set, ret_app, ret_mkL, ret_sli, ret_wr, ret_wq, ret_some, vq_l, vq_r, Int.toNat_natCast, if_true, if_false, obs, decide_false, decide_true, Bool.false_eq_true, Bool.not_true, Bool.not_false, not_true_eq_false, not_false_eq_true, true_implies, false_implies, reduceCtorEq, e5, hw]
    refine ret_call (P := fun s => s.length = n ∧ ∀ u : Nat, u < n → s[u]? = some (decide ((u : Int) ∈ (ls.take k).flatten ∨ (u : Int) ∈ l))) ?_ ?_
    · refine ret_loop l.length (fun m (s : List Bool × Int) => s.2 = m ∧ s.1.length = n ∧ ∀ u : Nat, u < n → s.1[u]? = some (decide ((u : Int) ∈ (ls.take k).flatten ∨ (u : Int) ∈ l.take m))) ⟨rfl, h1, fun u hu => by rw [h2 u hu]; simp⟩ ?_
      rintro m ⟨s, i⟩ hm ⟨rfl, s1, s2⟩
      simp only at s1 s2
      unfold sparseref12_Components_l76
      by_cases hml : m < l.length
      · obtain ⟨x, hx⟩ : ∃ x, l[m]? = some x := ⟨l[m], by simp [hml]⟩
        have hxr := hlr x (mem_get hx)
        have e2 : getI l (m : Int) = some x := hx
        have e6 : (m : Int) < (l.length : Int) := by omega
        have hw2 : wa .i64 (m : Int) 1 = ((m + 1 : Nat) : Int) := wa1 (by omega)
        simp only [ret_bind, ret_if, ret_get, ret_set, ret_app, ret_mkL, ret_sli, ret_wr, ret_wq, ret_some, vq_l, vq_r, Int.toNat_natCast, if_true, if_false, obs, decide_false, decide_true, Bool.false_eq_true, Bool.not_true, Bool.not_false, not_true_eq_false, not_false_eq_true, true_implies, false_implies, reduceCtorEq, e1, e2, e6, hw2]
        refine ⟨hxr.1, by omega, hml, trivial, by simp [s1], fun u hu => ?_⟩
        rw [List.getElem?_set, s2 u hu]
        by_cases hxu : x.toNat = u
        · rw [if_pos hxu, if_pos (by omega)]
          congr 1; symm
          rw [decide_eq_true_iff, mts hx]
          exact .inr (.inr (by omega))
        · rw [if_neg hxu]
          congr 1
          rw [decide_eq_decide, mts hx]
          constructor
          · rintro (h | h)
            · exact .inl h
            · exact .inr (.inl h)
          · rintro (h | h | h)
            · exact .inl h
            · exact .inr h
            · omega
      · have e6 : ¬ (m : Int) < (l.length : Int) := by omega
        simp only [ret_bind, ret_if, ret_get, ret_set, ret_app, ret_mkL, ret_sli, ret_wr, ret_wq, ret_some, vq_l, vq_r, Int.toNat_natCast, if_true, if_false, obs, decide_false, decide_true, Bool.false_eq_true, Bool.not_true, Bool.not_false, not_true_eq_false, not_false_eq_true, true_implies, false_implies, reduceCtorEq, e1, e6]
        exact ⟨s1, fun u hu => by rw [s2 u hu, take_all (l := l) (by omega)]⟩
    · rintro s ⟨s1, s2⟩
      refine ⟨hkl, trivial, s1, fun u hu => ?_⟩
      rw [s2 u hu]
      congr 1
      rw [decide_eq_decide, tks hx, List.flatten_append]
      simp
  · have e5 : ¬ (k : Int) < (ls.length : Int) := by omega
    simp only [ret_bind, ret_if, ret_get, ret_set, ret_app, ret_mkL, ret_sli, ret_wr, ret_wq, ret_some, vq_l, vq_r, Int.toNat_natCast, if_true, if_false, obs, decide_false, decide_true, Bool.false_eq_true, Bool.not_true, Bool.not_false, not_true_eq_false, not_false_eq_true, true_implies, false_implies, reduceCtorEq, e5]
    exact ⟨h1, fun u hu => by rw [h2 u hu, take_all (by omega)]⟩

theorem rcoll_ok {adj : List (List Int)} (hn : adj.length ≤ 1000) {seen t : List Bool} {tm : Nat → Prop} [DecidablePred tm] (hs : seen.length = adj.length) (ht : ∀ u : Nat, u < adj.length → t[u]? = some (decide (tm u))) :
    Ret (loop (sparseref12_Components_l74 adj t) (seen, [], 0)) (fun s => s.1.length = adj.length ∧ s.2 = coll tm adj.length ∧ ∀ u : Nat, u < adj.length → s.1[u]? = if tm u then some true else seen[u]?) := by
  refine ret_loop adj.length (fun k (s : List Bool × List Int × Int) => s.2.2 = k ∧ s.1.length = adj.length ∧ s.2.1 = coll tm k ∧ ∀ u : Nat, u < adj.length → s.1[u]? = if u < k ∧ tm u then some true else seen[u]?) ⟨rfl, hs, rfl, fun u hu => by simp⟩ ?_
  rintro k ⟨s, c, i⟩ hk ⟨h, h1, h2, h3⟩
  simp only at h h1 h2 h3
  subst h h2
  have hcl := coll_len (tm := tm) k
  unfold sparseref12_Components_l74 sparseref12_Components_j75
  by_cases hkl : k < adj.length
  · have e1 : getI t (k : Int) = some (decide (tm k)) := ht k hkl
    have e5 : (k : Int) < (adj.length : Int) := by omega
    have hw : wa .i64 (k : Int) 1 = ((k + 1 : Nat) : Int) := wa1 (by omega)
    simp only [ret_bind, ret_if, ret_get, ret_set, ret_app, ret_mkL, ret_sli, ret_wr, ret_wq, ret_some, vq_l, vq_r, Int.toNat_natCast, if_true, if_false, obs, decide_false, decide_true, Bool.false_eq_true, Bool.not_true, Bool.not_false, not_true_eq_false, not_false_eq_true, true_implies, false_implies, reduceCtorEq, e1, e5, hw, decide_eq_true_eq]
    refine ⟨fun h => ⟨by simp; omega, by omega, by omega, hkl, trivial, by simp [h1], by rw [coll, if_pos h], fun u hu => ?_⟩, fun h => ⟨hkl, trivial, h1, by rw [coll, if_neg h, List.append_nil], fun u hu => ?_⟩⟩
    · rw [List.getElem?_set]
      by_cases hku : k = u
      · subst hku; rw [if_pos rfl, if_pos (by omega), if_pos ⟨by omega, h⟩]
      · rw [if_neg hku, h3 u hu]
        by_cases hc : u < k ∧ tm u
        · rw [if_pos hc, if_pos ⟨by omega, hc.2⟩]
        · rw [if_neg hc, if_neg (fun hh => hc ⟨by omega, hh.2⟩)]
    · rw [h3 u hu]
      by_cases hc : u < k ∧ tm u
      · rw [if_pos hc, if_pos ⟨by omega, hc.2⟩]
      · rw [if_neg hc, if_neg]
        rintro ⟨h4, h5⟩
        by_cases huk : u = k
        · subst huk; exact h h5
        · exact hc ⟨by omega, h5⟩
  · have e5 : ¬ (k : Int) < (adj.length : Int) := by omega
    have : k = adj.length := by omega
    subst this
    simp only [ret_bind, ret_if, ret_get, ret_set, ret_app, ret_mkL, ret_sli, ret_wr, ret_wq, ret_some, vq_l, vq_r, Int.toNat_natCast, if_true, if_false, obs, decide_false, decide_true, Bool.false_eq_true, Bool.not_true, Bool.not_false, not_true_eq_false, not_false_eq_true, true_implies, false_implies, reduceCtorEq, e5]
    refine ⟨h1, trivial, fun u hu => ?_⟩
    rw [h3 u hu]
    simp [hu]

open Classical in
theorem rcomponents_ok {adj : List (List Int)} (hG : Gr adj) (hn : adj.length ≤ 12) : ∃ out, sparseref12_Components adj = some out ∧ CS adj adj.length out := by
  have : Ret (sparseref12_Components adj) (fun out => CS adj adj.length out) := by
    unfold sparseref12_Components
    rw [bindS (rCheck_ok hG (by omega)), if_pos rfl, bindS (mkL_nat false adj.length (by omega))]
    simp only [ret_bind, ret_some]
    refine ret_loop adj.length (fun k (t : List Bool × List (List Int) × Int) => t.2.2 = k ∧ CS adj k t.2.1 ∧ t.1.length = adj.length ∧ ∀ u : Nat, u < adj.length → t.1[u]? = some (decide (∃ c, c ∈ t.2.1 ∧ (u : Int) ∈ c))) ⟨rfl, ⟨by simp, by simp, by simp, by simp, by simp⟩, by simp, fun u hu => by simp [hu]⟩ ?_
    rintro k ⟨seen, out, i⟩ hk ⟨rfl, hC, hl, hs⟩
    simp only at hC hl hs
    unfold sparseref12_Components_l51 sparseref12_Components_j68
    by_cases hkn : k < adj.length
    · have e1 : getI seen (k : Int) = some (decide (∃ c, c ∈ out ∧ (k : Int) ∈ c)) := hs k hkn
      have e5 : (k : Int) < (adj.length : Int) := by omega
      have hw : wa .i64 (k : Int) 1 = ((k + 1 : Nat) : Int) := wa1 (by omega)
      obtain ⟨o, lev, sn, c, c1, c2, c3, c4⟩ := levels_cls hG hn hkn
      obtain ⟨o', lev', sn', r1, r2⟩ := rLevels_ok hG hn hkn
      obtain rfl := c2.out_eq r2
      obtain ⟨p1, p2, p3, p4, p5⟩ := bf_pre c2 hkn hn
      simp only [ret_bind, ret_if, ret_get, ret_set, ret_app, ret_mkL, ret_sli, ret_wr, ret_wq, ret_some, vq_l, vq_r, Int.toNat_natCast, if_true, if_false, obs, decide_false, decide_true, Bool.false_eq_true, Bool.not_true, Bool.not_false, not_true_eq_false, not_false_eq_true, true_implies, false_implies, reduceCtorEq, e1, e5, hw, decide_eq_true_eq]
      refine ⟨fun h => ⟨hkn, trivial, hC.next h, hl, hs⟩, fun hno => ?_⟩
      rw [ret_of r1]
      refine ⟨by omega, by omega, ?_⟩
      refine ret_call (rmark_ok (by omega) p5 p4) ?_
      rintro t ⟨t1, t2⟩
      refine ret_call (rcoll_ok (by omega) hl t2) ?_
      rintro ⟨s, c'⟩ ⟨s1, s2, s3⟩
      simp only at s1 s2 s3
      have hcc : c' = c := by
        rw [s2]
        refine asc_unique (coll_asc _) c3.asc fun x => ?_
        rw [coll_mem]
        constructor
        · rintro ⟨h1, h2, h3⟩
          rw [c4] at h3
          rwa [show ((x.toNat : Nat) : Int) = x by omega] at h3
        · intro hx
          have := c3.rng x hx
          refine ⟨this.1, by omega, ?_⟩
          rw [c4, show ((x.toNat : Nat) : Int) = x by omega]
          exact hx
      have hcl2 := hC.len
      refine ⟨by simp; omega, hkn, trivial, by rw [hcc]; exact hC.push hG hno c3, s1, fun u hu => ?_⟩
      simp only [hcc]
      rw [s3 u hu, hs u hu]
      by_cases huc : (u : Int) ∈ c
      · rw [if_pos ((c4 _).2 huc)]
        congr 1; symm
        rw [decide_eq_true_iff]
        exact ⟨c, by simp, huc⟩
      · rw [if_neg (fun h => huc ((c4 _).1 h))]
        congr 1
        rw [decide_eq_decide]
        constructor
        · rintro ⟨c', h1, h2⟩; exact ⟨c', by simp [h1], h2⟩
        · rintro ⟨c', h1, h2⟩
          rw [List.mem_append, List.mem_singleton] at h1
          rcases h1 with h1 | rfl
          · exact ⟨c', h1, h2⟩
          · exact absurd h2 huc
    · have e5 : ¬ (k : Int) < (adj.length : Int) := by omega
      have : k = adj.length := by omega
      subst this
      simp only [ret_bind, ret_if, ret_get, ret_set, ret_app, ret_mkL, ret_sli, ret_wr, ret_wq, ret_some, vq_l, vq_r, Int.toNat_natCast, if_true, if_false, obs, decide_false, decide_true, Bool.false_eq_true, Bool.not_true, Bool.not_false, not_true_eq_false, not_false_eq_true, true_implies, false_implies, reduceCtorEq, e5]
      exact hC
  exact this

theorem CS.uniq {adj : List (List Int)} (hG : Gr adj) {out out' : List (List Int)} (h : CS adj adj.length out) (h' : CS adj adj.length out') : out = out' := by
  have key : ∀ {out out' : List (List Int)}, CS adj adj.length out → CS adj adj.length out' → ∀ c, c ∈ out → c ∈ out' := by
    intro out out' h h' c hc
    obtain ⟨r, r1, r2, r3⟩ := h.cls c hc
    obtain ⟨c', k1, k2⟩ := h'.all r r1
    obtain ⟨r', q1, q2, q3⟩ := h'.cls c' k1
    have a1 : ∀ u : Nat, (u : Int) ∈ c → (u : Int) ∈ c' := r2.min (fun u => (u : Int) ∈ c') k2 (fun v w _ hv hw => q2.clo v w hv hw)
    have a2 : (r' : Int) ∈ c := by
      refine Classical.byContradiction fun hno => ?_
      exact q2.min (fun u => ¬ (u : Int) ∈ c) hno (fun v w _ hv hw hwc => hv (r2.clo w v hwc (nbp_sym hG hw))) r k2 r2.mem
    have a3 : ∀ u : Nat, (u : Int) ∈ c' → (u : Int) ∈ c := q2.min (fun u => (u : Int) ∈ c) a2 (fun v w _ hv hw => r2.clo v w hv hw)
    have : c = c' := asc_unique r2.asc q2.asc fun x => by
      constructor
      · intro hx
        have := r2.rng x hx
        have := a1 x.toNat (by rwa [show ((x.toNat : Nat) : Int) = x by omega])
        rwa [show ((x.toNat : Nat) : Int) = x by omega] at this
      · intro hx
        have := q2.rng x hx
        have := a3 x.toNat (by rwa [show ((x.toNat : Nat) : Int) = x by omega])
        rwa [show ((x.toNat : Nat) : Int) = x by omega] at this
    rw [this]; exact k1
  have hd : ∀ {out : List (List Int)}, CS adj adj.length out → (out.map fun c => c.headD 0).Pairwise (· < ·) := by
    intro out h
    rw [List.pairwise_map, List.pairwise_iff_getElem]
    intro i j hi hj hij
    obtain ⟨r, _, _, r3⟩ := h.cls _ (List.getElem_mem hi)
    obtain ⟨q, _, _, q3⟩ := h.cls _ (List.getElem_mem hj)
    have := List.pairwise_iff_getElem.1 h.ord i j hi hj hij _ _ r3 q3
    rw [List.headD_eq_head?_getD, List.headD_eq_head?_getD, r3, q3]
    exact this
  have hm : (out.map fun c => c.headD 0) = (out'.map fun c => c.headD 0) := asc_unique (hd h) (hd h') fun x => by
    simp only [List.mem_map]
    constructor
    · rintro ⟨c, h1, h2⟩; exact ⟨c, key h h' c h1, h2⟩
    · rintro ⟨c, h1, h2⟩; exact ⟨c, key h' h c h1, h2⟩
  have hlen : out.length = out'.length := by simpa using congrArg List.length hm
  apply List.ext_getElem hlen
  intro i h1 h2
  obtain ⟨r, _, r2, r3⟩ := h.cls _ (List.getElem_mem h1)
  obtain ⟨q, _, q2, q3⟩ := h'.cls _ (List.getElem_mem h2)
  have : out[i].headD 0 = out'[i].headD 0 := by
    have := congrArg (fun l => l[i]?) hm
    simpa [h1, h2] using this
  rw [List.headD_eq_head?_getD, List.headD_eq_head?_getD, r3, q3] at this
  have hrq : r = q := by simp at this; omega
  subst hrq
  exact r2.uniq q2

theorem kints_ok {l m : List Int} (hl : l.length ≤ 100000) : sparsekit_Ints l m = some (decide (l = m)) := by
  unfold sparsekit_Ints
  by_cases hlen : l.length = m.length
  · rw [if_pos (by omega)]
    refine Ret.eq ?_
    rw [ret_bind]
    refine ret_call (P := fun o => (o = .inl () ∧ l = m) ∨ (o = .inr () ∧ l ≠ m)) ?_ ?_
    · refine ret_loop l.length (fun k (t : Int) => t = (k : Int) ∧ l.take k = m.take k) ⟨rfl, by simp⟩ ?_
      rintro k t hk ⟨rfl, hI⟩
      unfold sparsekit_Ints_l1
      by_cases hkl : k < l.length
      · have e1 : getI l (k : Int) = some l[k] := getI_lt hkl
        have e2 : getI m (k : Int) = some (m[k]'(by omega)) := getI_lt (by omega)
        have e5 : (k : Int) < (l.length : Int) := by omega
        have hw : wa .i64 (k : Int) 1 = ((k + 1 : Nat) : Int) := wa1 (by omega)
        simp only [ret_bind, ret_if, ret_get, ret_set, ret_app, ret_mkL, ret_sli, ret_wr, ret_wq, ret_some, vq_l, vq_r, Int.toNat_natCast, if_true, if_false, obs, decide_false, decide_true, Bool.false_eq_true, Bool.not_true, Bool.not_false, not_true_eq_false, not_false_eq_true, true_implies, false_implies, reduceCtorEq, e1, e2, e5, hw]
        refine ⟨fun h => ⟨hkl, trivial, ?_⟩, fun h => .inr ⟨trivial, fun he => h (by subst he; rfl)⟩⟩
        rw [tks (x := l[k]) (by simp [hkl]), tks (x := m[k]'(by omega)) (by simp [show k < m.length by omega]), hI, h]
      · have e5 : ¬ (k : Int) < (l.length : Int) := by omega
        simp only [ret_bind, ret_if, ret_get, ret_set, ret_app, ret_mkL, ret_sli, ret_wr, ret_wq, ret_some, vq_l, vq_r, Int.toNat_natCast, if_true, if_false, obs, decide_false, decide_true, Bool.false_eq_true, Bool.not_true, Bool.not_false, not_true_eq_false, not_false_eq_true, true_implies, false_implies, reduceCtorEq, e5]
        refine .inl ⟨trivial, ?_⟩
        rwa [take_all (by omega), take_all (by omega)] at hI
    · rintro o (⟨rfl, h⟩ | ⟨rfl, h⟩)
      · rw [ret_some, decide_eq_true h]
      · rw [ret_some, decide_eq_false h]
  · rw [if_neg (by omega), decide_eq_false (fun h => hlen (by rw [h]))]
theorem klists_ok {l m : List (List Int)} (hl : l.length ≤ 100000) (hs : ∀ x, x ∈ l → x.length ≤ 100000) : sparsekit_Lists l m = some (decide (l = m)) := by
  unfold sparsekit_Lists
  by_cases hlen : l.length = m.length
  · rw [if_pos (by omega)]
    refine Ret.eq ?_
    rw [ret_bind]
    refine ret_call (P := fun o => (o = .inl () ∧ l = m) ∨ (o = .inr () ∧ l ≠ m)) ?_ ?_
    · refine ret_loop l.length (fun k (t : Int) => t = (k : Int) ∧ l.take k = m.take k) ⟨rfl, by simp⟩ ?_
      rintro k t hk ⟨rfl, hI⟩
      unfold sparsekit_Lists_l1
      by_cases hkl : k < l.length
      · have e1 : getI l (k : Int) = some l[k] := getI_lt hkl
        have e2 : getI m (k : Int) = some (m[k]'(by omega)) := getI_lt (by omega)
        have e3 := kints_ok (l := l[k]) (m := m[k]'(by omega)) (hs _ (List.getElem_mem hkl))
        have e5 : (k : Int) < (l.length : Int) := by omega
        have hw : wa .i64 (k : Int) 1 = ((k + 1 : Nat) : Int) := wa1 (by omega)
        simp only [ret_bind, ret_if, ret_get, ret_set, ret_app, ret_mkL, ret_sli, ret_wr, ret_wq, ret_some, vq_l, vq_r, Int.toNat_natCast, if_true, if_false, obs, decide_false, decide_true, Bool.false_eq_true, Bool.not_true, Bool.not_false, not_true_eq_false, not_false_eq_true, true_implies, false_implies, reduceCtorEq, e1, e2, e3, e5, hw, decide_eq_true_eq]
        refine ⟨fun h => ⟨hkl, trivial, ?_⟩, fun h => .inr ⟨trivial, fun he => h (by subst he; rfl)⟩⟩
        rw [tks (x := l[k]) (by simp [hkl]), tks (x := m[k]'(by omega)) (by simp [show k < m.length by omega]), hI, h]
      · have e5 : ¬ (k : Int) < (l.length : Int) := by omega
        simp only [ret_bind, ret_if, ret_get, ret_set, ret_app, ret_mkL, ret_sli, ret_wr, ret_wq, ret_some, vq_l, vq_r, Int.toNat_natCast, if_true, if_false, obs, decide_false, decide_true, Bool.false_eq_true, Bool.not_true, Bool.not_false, not_true_eq_false, not_false_eq_true, true_implies, false_implies, reduceCtorEq, e5]
        refine .inl ⟨trivial, ?_⟩
        rwa [take_all (by omega), take_all (by omega)] at hI
    · rintro o (⟨rfl, h⟩ | ⟨rfl, h⟩)
      · rw [ret_some, decide_eq_true h]
      · rw [ret_some, decide_eq_false h]
  · rw [if_neg (by omega), decide_eq_false (fun h => hlen (by rw [h]))]

open Classical in
theorem rrelabel_ok {adj : List (List Int)} (hG : Gr adj) (hn : adj.length ≤ 12) {l : List Int} (h : Pm l adj.length) : sparseref12_Relabel adj l = some ((List.range l.length).map fun i => coll (fun j => IJ adj l i j) l.length, 0) := by
  have hlen := h.len
  unfold sparseref12_Relabel
  rw [bindS (rCheck_ok hG (by omega)), if_pos rfl, if_pos (by omega), bindS (perm_true (by omega) hlen h.nd h.rng), if_pos rfl, bindS (rinduced_ok hG (by omega) (by omega) h.rng h.nd)]

theorem graphMade_true (x1 : Int) (x2 : List Int) (x4 : Int) (x5 : List Int) : sparselaw12_GraphMade x1 x2 x4 x5 = some true := by
  unfold sparselaw12_GraphMade
  by_cases hc : (60 : Int) < (x2.length : Int)
  · rw [if_pos hc, awake12]; rfl
  · rw [if_neg hc]
    obtain ⟨n, hp, hz⟩ := place_ok x1 13 (by omega) (by omega)
    have hp' : sparsekit_Place x1 13 = some (n : Int) := hp
    obtain ⟨b, hb⟩ := graph_ok (n := n) (by omega) x2 (by omega)
    have hG := nbr_gr b n
    have hadjl : ((List.range n).map fun k => nbr b k n).length = n := by simp
    generalize hadj : ((List.range n).map fun k => nbr b k n) = adj at hb hG hadjl
    subst hadjl
    obtain ⟨o, o1, o2⟩ := shuffle_ok x5 (n := adj.length) (by omega)
    have hn12 : adj.length ≤ 12 := by omega
    have hw1 : wa .i64 (adj.length : Int) 1 = ((adj.length + 1 : Nat) : Int) := wa1 (by omega)
    obtain ⟨v, hq, hv⟩ := place_ok x4 (adj.length + 1) (by omega) (by omega)
    have hchk := graphCheck_ok hG (show adj.length ≤ 200 by omega)
    have hol := o2.len
    rw [bindS hp', bindS hb, bindS o1, bindS (relabel_ok hG hn12 o2), bindS (rrelabel_ok hG hn12 o2), hw1, bindS hq, bindS hchk]
    have hg : ∀ a : List (List Int), a.length ≤ 100000 → (∀ x, x ∈ a → x.length ≤ 100000) → sparsekit_Graph a a = some true := by
      intro a h1 h2
      unfold sparsekit_Graph
      rw [klists_ok h1 h2]; simp
    rw [if_pos rfl]
    simp only [Option.bind_some, decide_true, if_true]
    rw [hg _ (by simp; omega) (by
      intro x hx
      simp only [List.mem_map] at hx
      obtain ⟨i, _, rfl⟩ := hx
      have := @coll_len (fun j => IJ adj o i j) (fun _ => Classical.propDecidable _) o.length
      omega)]
    simp only [Option.bind_some, if_true]
    have hlev : ∃ r, graph_Levels adj (v : Int) = some r ∧ sparseref12_Levels adj (v : Int) = some r ∧ r.length ≤ 100000 ∧ ∀ x, x ∈ r → x.length ≤ 100000 := by
      by_cases hvn : v < adj.length
      · obtain ⟨a, lev, seen, c, a1, a2, a3, a4⟩ := levels_cls hG hn12 hvn
        obtain ⟨a', lev', seen', r1, r2⟩ := rLevels_ok hG hn12 hvn
        obtain rfl := a2.out_eq r2
        obtain ⟨p1, p2, p3, p4, p5⟩ := bf_pre a2 hvn hn12
        refine ⟨a, ?_, r1, by omega, fun x hx => by have := p5 x hx; omega⟩
        unfold graph_Levels graph_vertex
        have e2 : (v : Int) < (adj.length : Int) := by omega
        have e3 : (0 : Int) ≤ (v : Int) := by omega
        simp [hchk, e2, e3, a1]
      · refine ⟨[], ?_, ?_, by simp, by simp⟩
        · unfold graph_Levels graph_vertex
          have e2 : ¬ (v : Int) < (adj.length : Int) := by omega
          simp [hchk, e2]
        · unfold sparseref12_Levels
          rw [bindS (rCheck_ok hG (by omega)), if_pos (by simp; omega)]
    obtain ⟨r, l1, l2, l3, l4⟩ := hlev
    rw [bindS l1, bindS l2, klists_ok l3 l4]
    simp only [Option.bind_some, decide_true, if_true]
    have hper : ∃ p, graph_Peripheral adj (v : Int) = some p ∧ sparseref12_Peripheral adj (v : Int) = some p := by
      by_cases hvn : v < adj.length
      · obtain ⟨a, lev, seen, c, a1, a2, a3, a4⟩ := levels_cls hG hn12 hvn
        obtain ⟨p, p0, _⟩ := peripheral_ok hG hn12 hvn a1
        exact ⟨p, p0, rper_ok hG hn12 hvn p0⟩
      · refine ⟨-1, ?_, ?_⟩
        · unfold graph_Peripheral graph_vertex
          have e2 : ¬ (v : Int) < (adj.length : Int) := by omega
          simp [hchk, e2]
        · unfold sparseref12_Peripheral
          rw [bindS (rCheck_ok hG (by omega)), if_pos (by simp; omega)]
    obtain ⟨p, p1, p2⟩ := hper
    rw [bindS p1, bindS p2]
    simp only [Option.bind_some, decide_true, if_true]
    obtain ⟨out, c1, hC⟩ := components_ok hG hn12
    obtain ⟨out', c2, hC'⟩ := rcomponents_ok hG hn12
    obtain rfl := hC.uniq hG hC'
    have hcl := hC.len
    rw [bindS c1, bindS c2, klists_ok (by omega) (by
      intro x hx
      obtain ⟨_, _, r2, _⟩ := hC.cls x hx
      have := asc_len r2.asc r2.rng
      omega)]
    simp only [Option.bind_some, decide_true, if_true, awake12]
end Pl
