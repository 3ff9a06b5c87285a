/- The law of the components over the models. -/
import Derived.Test.YtcknmegldjnjjaaPsK
set_option linter.unusedSimpArgs false
set_option linter.unusedVariables false
namespace Pl
open Sx Go M Vc

theorem perm_true {l : List Int} {n : Nat} (hn : n ≤ 100000) (hl : l.length = n) (hd : l.Nodup) (hr : ∀ x, x ∈ l → 0 ≤ x ∧ x < n) : sparsekit_Perm l (n : Int) = some true := by
  refine Ret.eq ?_
  unfold sparsekit_Perm
  rw [if_pos (by omega)]
  simp only [ret_bind, ret_mkL, Int.toNat_natCast]
  refine ⟨by omega, by omega, ?_⟩
  refine ret_loop n (fun k (t : List Bool × Int) => t.2 = k ∧ t.1.length = n ∧ ∀ u : Nat, u < n → t.1[u]? = some (decide ((u : Int) ∈ l.take k))) ⟨rfl, by simp, fun u hu => by simp [hu]⟩ ?_
  rintro k ⟨t, i⟩ hk ⟨rfl, h1, h2⟩
  simp only at h1 h2
  unfold sparsekit_Perm_l5
  by_cases hkn : k < n
  · have hx : l[k]? = some (l[k]'(by omega)) := by simp [show k < l.length by omega]
    have hxr := hr _ (mem_get hx)
    have hno := nodup_take hd (k := k) (by omega)
    have h3 := h2 (l[k]'(by omega)).toNat (by omega)
    generalize hv : (l[k]'(by omega)) = x at hx hxr hno h3
    have hxx : ((x.toNat : Nat) : Int) = x := by omega
    rw [hxx, decide_eq_false hno] at h3
    have e1 : getI l (k : Int) = some x := hx
    have e2 : getI t x = some false := getI_of hxr.1 h3
    have hw : wa .i64 (k : Int) 1 = ((k + 1 : Nat) : Int) := wa1 (by omega)
    have e3 : ¬ x < 0 := by omega
    have e4 : ¬ (n : Int) ≤ x := by omega
    have e5 : (k : Int) < (n : Int) := by omega
    simp only [ret_bind, ret_if, ret_get, ret_set, ret_app, ret_mkL, ret_sli, ret_wr, ret_wq, ret_some, vq_l, vq_r, Int.toNat_natCast, if_true, if_false, Option.bind_some, decide_false, decide_true, Bool.false_eq_true, Bool.not_true, Bool.not_false, not_true_eq_false, not_false_eq_true, true_implies, false_implies, reduceCtorEq, e1, e2, hw, e3, e4, e5]
    have := fun y => mts (y := y) hx
    grind
  · have e5 : ¬ (k : Int) < (n : Int) := by omega
    simp only [ret_bind, ret_if, ret_get, ret_set, ret_app, ret_mkL, ret_sli, ret_wr, ret_wq, ret_some, vq_l, vq_r, Int.toNat_natCast, if_true, if_false, Option.bind_some, decide_false, decide_true, Bool.false_eq_true, Bool.not_true, Bool.not_false, not_true_eq_false, not_false_eq_true, true_implies, false_implies, reduceCtorEq, e5]

theorem flat_perm {adj : List (List Int)} {out : List (List Int)} (h : CS adj adj.length out) : out.flatten.Nodup ∧ (∀ x, x ∈ out.flatten ↔ 0 ≤ x ∧ x < adj.length) ∧ out.flatten.length = adj.length := by
  have hm : ∀ x, x ∈ out.flatten ↔ 0 ≤ x ∧ x < adj.length := by
    intro x
    rw [List.mem_flatten]
    constructor
    · rintro ⟨c, h1, h2⟩
      obtain ⟨r, _, h3, _⟩ := h.cls c h1
      exact h3.rng x h2
    · rintro ⟨h1, h2⟩
      obtain ⟨c, h3, h4⟩ := h.all x.toNat (by omega)
      exact ⟨c, h3, by rwa [show ((x.toNat : Nat) : Int) = x by omega] at h4⟩
  have hd : out.flatten.Nodup := by
    rw [List.nodup_iff_pairwise_ne, List.pairwise_flatten]
    refine ⟨fun c hc => ?_, h.dis.imp ?_⟩
    · obtain ⟨r, _, h3, _⟩ := h.cls c hc
      exact asc_nodup h3.asc
    · intro a b hab x hx y hy hxy
      subst hxy; exact hab x hx hy
  refine ⟨hd, hm, ?_⟩
  have hp : out.flatten.Perm ((List.range adj.length).map fun i => Int.ofNat i) := by
    refine (List.perm_ext_iff_of_nodup hd ?_).2 fun x => ?_
    · rw [List.nodup_iff_pairwise_ne, List.pairwise_map]
      refine List.Pairwise.imp ?_ (List.nodup_range (n := adj.length))
      intro a b hab hc; exact hab (Int.ofNat.inj hc)
    · rw [hm x]
      simp
      constructor
      · rintro ⟨h1, h2⟩; exact ⟨x.toNat, by omega, by omega⟩
      · rintro ⟨a, h1, h2⟩; omega
  simpa using hp.length_eq

theorem sumlen_ok {ls : List (List Int)} (hl : ls.length ≤ 1000) (hf : ls.flatten.length ≤ 1000) : Ret (loop sparselaw12_GraphComponents_l52 (0, ls, 0)) (fun x => x = (ls.flatten.length : Int)) := by
  refine ret_loop ls.length (fun k (t : Int × List (List Int) × Int) => t.2.1 = ls ∧ t.2.2 = k ∧ t.1 = ((ls.take k).flatten.length : Int)) (by simp) ?_
  rintro k ⟨t, l, i⟩ hk ⟨h0, rfl, h1⟩
  simp only at h0 h1
  subst h0 h1
  unfold sparselaw12_GraphComponents_l52
  simp only [ret_bind, ret_if, ret_get, ret_some, vq_l, vq_r, Int.toNat_natCast]
  refine ⟨fun h => ⟨by omega, by omega, fun x hx => ?_⟩, fun h => ?_⟩
  · have h3 := take_flatten_le l (k + 1)
    rw [tks hx, List.flatten_append, List.length_append] at h3
    simp only [List.flatten_cons, List.flatten_nil, List.append_nil] at h3
    refine ⟨by omega, trivial, wa1 (by omega), ?_⟩
    rw [wa_i (by omega) (by omega), tks hx, List.flatten_append, List.length_append]
    simp
  · rw [take_all (by omega)]

theorem inmark_ok {out : List (List Int)} {k n : Nat} {c : List Int} (hgI : getI out (k : Int) = some c) (hrng : ∀ x, x ∈ c → 0 ≤ x ∧ x < (n : Int)) (hcl : c.length < 1000000) {t : List Int} (ht : t.length = n) :
    Ret (loop (sparselaw12_GraphComponents_l51 out (k : Int) (n : Int)) (t, 0)) (fun o => ∃ s : List Int, o = .inl s ∧ s.length = n ∧ ∀ u : Nat, u < n → s[u]? = if (u : Int) ∈ c then some (k : Int) else t[u]?) := by
  refine ret_loop c.length (fun j (s : List Int × Int) => s.2 = j ∧ s.1.length = n ∧ ∀ u : Nat, u < n → s.1[u]? = if (u : Int) ∈ c.take j then some (k : Int) else t[u]?) ⟨rfl, ht, fun u hu => by simp⟩ ?_
  rintro j ⟨s, i⟩ hj2 ⟨rfl, s1, s2⟩
  simp only at s1 s2
  unfold sparselaw12_GraphComponents_l51
  by_cases hjc : j < c.length
  · obtain ⟨x, hx⟩ : ∃ x, c[j]? = some x := ⟨c[j], by simp [hjc]⟩
    have hxr := hrng x (mem_get hx)
    have e1 : getI c (j : Int) = some x := hx
    have hw : wa .i64 (j : Int) 1 = ((j + 1 : Nat) : Int) := wa1 (by omega)
    have e3 : ¬ x < 0 := by omega
    have e4 : ¬ (n : Int) ≤ x := by omega
    have e5 : (j : Int) < (c.length : Int) := by omega
    simp only [ret_bind, ret_if, ret_get, ret_set, ret_app, ret_mkL, ret_sli, ret_wr, ret_wq, ret_some, vq_l, vq_r, Int.toNat_natCast, if_true, if_false, Option.bind_some, decide_false, decide_true, Bool.false_eq_true, Bool.not_true, Bool.not_false, not_true_eq_false, not_false_eq_true, true_implies, false_implies, reduceCtorEq, hgI, e1, hw, e3, e4, e5]
    have := fun y => mts (y := y) hx
    clear hgI e1 hw e3 e4 e5 hrng ht
    grind
  · have e5 : ¬ (j : Int) < (c.length : Int) := by omega
    simp only [ret_bind, ret_if, ret_get, ret_set, ret_app, ret_mkL, ret_sli, ret_wr, ret_wq, ret_some, vq_l, vq_r, Int.toNat_natCast, if_true, if_false, Option.bind_some, decide_false, decide_true, Bool.false_eq_true, Bool.not_true, Bool.not_false, not_true_eq_false, not_false_eq_true, true_implies, false_implies, reduceCtorEq, hgI, e5]
    exact ⟨s, rfl, s1, fun u hu => by rw [s2 u hu, take_all (by omega)]⟩

theorem graphComponents_true (x1 : Int) (x2 : List Int) : sparselaw12_GraphComponents x1 x2 = some true := by
  unfold sparselaw12_GraphComponents
  by_cases hc : (60 : Int) < (x2.length : Int)
  · rw [if_pos hc, awake12]; rfl
  · rw [if_neg hc]
    obtain ⟨n, hp, hz⟩ := place_ok x1 13 (by omega) (by omega)
    have hp' : sparsekit_Place x1 13 = some (n : Int) := hp
    obtain ⟨b, hb⟩ := graph_ok (n := n) (by omega) x2 (by omega)
    have hG := nbr_gr b n
    have hadjl : ((List.range n).map fun k => nbr b k n).length = n := by simp
    generalize hadj : ((List.range n).map fun k => nbr b k n) = adj at hb hG hadjl
    obtain ⟨out, c1, hC⟩ := components_ok hG (by omega)
    obtain ⟨f1, f2, f3⟩ := flat_perm hC
    have hcl := hC.len
    refine Ret.eq ?_
    rw [bindS hp', bindS hb, bindS c1, bindS (mkL_nat 0 n (by omega)), ret_bind]
    refine ret_call (P := fun o => ∃ t : List Int, o = .inl (out.flatten, t) ∧ t.length = n ∧ ∀ (j : Nat) c, out[j]? = some c → ∀ u : Nat, (u : Int) ∈ c → t[u]? = some (j : Int)) ?_ ?_
    · refine ret_loop out.length (fun k (t : List Int × List Int × Int) => t.2.2 = k ∧ t.1 = (out.take k).flatten ∧ t.2.1.length = n ∧ ∀ (j : Nat) c, out[j]? = some c → j < k → ∀ u : Nat, (u : Int) ∈ c → t.2.1[u]? = some (j : Int)) ⟨rfl, by simp, by simp, fun j c _ h => by omega⟩ ?_
      rintro k ⟨al, t, i⟩ hk ⟨rfl, rfl, ht, hj⟩
      simp only at ht hj
      unfold sparselaw12_GraphComponents_l33
      by_cases hko : k < out.length
      · have hg : out[k]? = some out[k] := by simp [hko]
        have hgI : getI out (k : Int) = some out[k] := getI_lt hko
        obtain ⟨r, r1, r2, r3⟩ := hC.cls _ (List.getElem_mem hko)
        have hlen := asc_len r2.asc r2.rng
        have hpos : 0 < out[k].length := List.length_pos_of_mem r2.mem
        have hg0 : getI out[k] 0 = some (r : Int) := by
          rw [List.head?_eq_getElem?] at r3
          exact r3
        simp only [ret_bind]
        rw [if_pos (by omega), hgI]
        simp only [Option.bind_some]
        rw [if_neg (by omega), gAsc_ok r2.asc (by omega)]
        simp only [Option.bind_some, Bool.not_true, Bool.false_eq_true, if_false]
        have hcmp : ((if (0 : Int) < (k : Int) then (getI out[k] 0).bind fun x391 => (getI out (ws .i64 (k : Int) 1)).bind fun x392 => (getI x392 0).bind fun x394 => some (decide (x391 < x394)) else some false).bind fun r387 => some r387) = some false := by
          by_cases hk0 : (0 : Int) < (k : Int)
          · have e : ws .i64 (k : Int) 1 = ((k - 1 : Nat) : Int) := by rw [ws_i (by omega) (by omega)]; omega
            have hk1 : k - 1 < out.length := by omega
            obtain ⟨q, q1, q2, q3⟩ := hC.cls _ (List.getElem_mem hk1)
            have hq0 : getI out[k - 1] 0 = some (q : Int) := by
              have := q3
              rw [List.head?_eq_getElem?] at this
              exact this
            have hlt := List.pairwise_iff_getElem.1 hC.ord (k - 1) k hk1 hko (by omega) _ _ q3 r3
            rw [if_pos hk0, e, getI_lt hk1, hg0]
            simp only [Option.bind_some, hq0]
            rw [decide_eq_false (by omega)]
          · rw [if_neg hk0]; rfl
        rw [hcmp]
        simp only [Option.bind_some, Bool.false_eq_true, if_false]
        simp only [ret_bind]
        refine ret_call (P := fun o => ∃ s : List Int, o = .inl s ∧ s.length = n ∧ ∀ u : Nat, u < n → s[u]? = if (u : Int) ∈ out[k] then some (k : Int) else t[u]?) ?_ ?_
        · refine inmark_ok hgI (fun x hx => by have := r2.rng x hx; omega) (by omega) ht
        · rintro o ⟨s, rfl, s1, s2⟩
          obtain ⟨lv, l1, l2⟩ := r2.ref
          have hlf := l2.length_eq
          have hll : lv.length ≤ 1000 := by
            obtain ⟨lv', _, _, g1, g2⟩ := rLevels_ok hG (by omega) (root := r) (by omega)
            rw [l1] at g1; cases g1
            have := g2.count
            omega
          simp only [ret_bind]
          rw [hg0]
          simp only [ret_some]
          rw [ret_of l1]
          refine ret_call (sumlen_ok hll (by omega)) ?_
          rintro _ rfl
          rw [if_pos (by omega)]
          have hfl := take_flatten_le out (k + 1)
          rw [tks hg, List.flatten_append, List.length_append] at hfl
          simp only [List.flatten_cons, List.flatten_nil, List.append_nil] at hfl
          simp only [ret_bind, ret_app, ret_some, vq_l]
          refine ⟨by omega, by omega, wa1 (by omega), ?_, s1, fun j c hjc hjk u hu => ?_⟩
          · rw [tks hg, List.flatten_append]; simp
          · have hun : u < n := by
              obtain ⟨_, _, q2, _⟩ := hC.cls c (mem_get hjc)
              have := q2.rng _ hu; omega
            rw [s2 u hun]
            by_cases hjk2 : j = k
            · subst hjk2
              rw [hg] at hjc; cases hjc
              rw [if_pos hu]
            · have hjl := (List.getElem?_eq_some_iff.1 hjc)
              obtain ⟨hjl, hjc'⟩ := hjl
              have := List.pairwise_iff_getElem.1 hC.dis j k hjl hko (by omega) (u : Int) (by rw [hjc']; exact hu)
              rw [if_neg this]
              exact hj j c hjc (by omega) u hu
      · have e5 : ¬ (k : Int) < (out.length : Int) := by omega
        simp only [ret_bind, ret_if, ret_get, ret_set, ret_app, ret_mkL, ret_sli, ret_wr, ret_wq, ret_some, vq_l, vq_r, Int.toNat_natCast, if_true, if_false, Option.bind_some, decide_false, decide_true, Bool.false_eq_true, Bool.not_true, Bool.not_false, not_true_eq_false, not_false_eq_true, true_implies, false_implies, reduceCtorEq, e5]
        exact ⟨t, by rw [take_all (by omega)], ht, fun j c hjc u hu => hj j c hjc (by have := (List.getElem?_eq_some_iff.1 hjc).1; omega) u hu⟩
    · rintro o ⟨t, rfl, t1, t2⟩
      simp only
      rw [bindS (perm_true (by omega) (by omega) f1 fun x hx => by have := (f2 x).1 hx; omega), if_pos rfl]
      simp only [ret_bind]
      refine ret_call (P := fun o => o = .inl ()) ?_ (by rintro _ rfl; simp only [ret_bind]; rw [ret_of awake12]; simp [ret_some])
      refine ret_loop n (fun k (s : Int) => s = k) rfl ?_
      rintro v s hv rfl
      unfold sparselaw12_GraphComponents_l36
      by_cases hvn : v < n
      · rw [if_pos (by omega)]
        simp only [ret_bind]
        have hvl : v < adj.length := by omega
        have hgv : adj[v]? = some adj[v] := by simp [hvl]
        have hlen := hG.len hgv
        refine ret_call (P := fun o => o = .inl ()) ?_ (by rintro _ rfl; simp only [ret_some, vq_l]; exact ⟨by omega, wa1 (by omega)⟩)
        refine ret_loop adj[v].length (fun k (s : Int) => s = k) rfl ?_
        rintro j s hj rfl
        unfold sparselaw12_GraphComponents_l37
        rw [bindS (getI_lt hvl)]
        by_cases hjl : j < adj[v].length
        · have hr := hG.rng v _ _ hgv (List.getElem_mem hjl)
          obtain ⟨c, c1, c2⟩ := hC.all v (by omega)
          obtain ⟨m, hm⟩ := List.mem_iff_getElem?.1 c1
          obtain ⟨_, _, q2, _⟩ := hC.cls c c1
          have hnb : nbp adj v (adj[v][j]).toNat := ⟨_, hgv, by rw [show (((adj[v][j]).toNat : Nat) : Int) = adj[v][j] by omega]; exact List.getElem_mem hjl⟩
          have hw := t2 m c hm _ (q2.clo v _ c2 hnb)
          have hv2 := t2 m c hm v c2
          rw [if_pos (by omega), bindS (getI_lt hvl), bindS (getI_lt hjl), bindS (getI_of hr.1 hw), bindS (show getI t (v : Int) = some (m : Int) from hv2), if_pos rfl, ret_some, vq_l]
          exact ⟨by omega, wa1 (by omega)⟩
        · rw [if_neg (by omega), ret_some, vq_r]
      · rw [if_neg (by omega), ret_some, vq_r]
end Pl
