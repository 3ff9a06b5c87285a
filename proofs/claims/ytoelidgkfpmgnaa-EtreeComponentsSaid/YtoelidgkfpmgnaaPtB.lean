/- The law of trees and components over the models. -/
import Derived.Test.YtoelidgkfpmgnaaPsK
import Derived.Test.YtoelidgkfpmgnaaPlN
import Derived.Test.YtoelidgkfpmgnaaM4
set_option linter.unusedSimpArgs false
set_option linter.unusedVariables false
namespace Pl
open Sx Go M Vc

theorem root_ex {par : List Int} (hF : Fo par) : ∀ m v, par.length = v + m → v < par.length → ∃ r, Up par v r ∧ par[r]? = some (-1) := by
  intro m
  induction m using Nat.strongRecOn with
  | ind m ih =>
    intro v hm hv
    have hg : par[v]? = some par[v] := by simp [hv]
    rcases hF v hv _ hg with h | ⟨h1, h2⟩
    · exact ⟨v, Up.refl _ _, by rw [hg, h]⟩
    · obtain ⟨q, hq⟩ := Int.eq_ofNat_of_zero_le (show 0 ≤ par[v] by omega)
      obtain ⟨r, h3, h4⟩ := ih (par.length - q) (by omega) q (by omega) (by omega)
      exact ⟨r, Up.step (by rw [hg, hq]) h3, h4⟩
theorem root_uniq {par : List Int} {v r r' : Nat} (h : Up par v r) (hr : par[r]? = some (-1)) (h' : Up par v r') (hr' : par[r']? = some (-1)) : r = r' := by
  revert hr h'
  refine Up.ind (P := fun v r => par[r]? = some (-1) → Up par v r' → r = r') ?_ ?_ h
  · intro u hu h'
    rcases h'.cases with h | ⟨q, h1, h2⟩
    · exact h
    · rw [hu] at h1; have := Option.some.inj h1; omega
  · intro u q a hq _ ih ha h'
    rcases h'.cases with h | ⟨q', h1, h2⟩
    · subst h; rw [hr'] at hq; have := Option.some.inj hq; omega
    · rw [hq] at h1
      have : q = q' := by have := Option.some.inj h1; omega
      subst this
      exact ih ha h2
open Classical in
noncomputable def rt (par : List Int) (v : Nat) : Nat := if h : ∃ r, Up par v r ∧ par[r]? = some (-1) then Classical.choose h else v
theorem rt_spec {par : List Int} (hF : Fo par) {v : Nat} (hv : v < par.length) : Up par v (rt par v) ∧ par[rt par v]? = some (-1) := by
  have h := root_ex hF (par.length - v) v (by omega) hv
  unfold rt
  rw [dif_pos h]
  exact Classical.choose_spec h
theorem rt_of {par : List Int} (hF : Fo par) {v r : Nat} (hv : v < par.length) (h : Up par v r) (hr : par[r]? = some (-1)) : rt par v = r :=
  root_uniq (rt_spec hF hv).1 (rt_spec hF hv).2 h hr
theorem Up.lt {par : List Int} (hF : Fo par) {v a : Nat} (h : Up par v a) (hv : v < par.length) : a < par.length := by
  revert hv
  refine Up.ind (P := fun v a => v < par.length → a < par.length) (fun _ h => h) ?_ h
  intro u q a hq _ ih hu
  rcases hF u hu _ hq with h | ⟨_, h⟩
  · omega
  · exact ih (by omega)
theorem rt_up {par : List Int} (hF : Fo par) {v u : Nat} (hv : v < par.length) (h : Up par v u) : rt par v = rt par u := by
  have hu := h.lt hF hv
  exact rt_of hF hv (h.trans (rt_spec hF hu).1) (rt_spec hF hu).2
theorem rt_nb {adj : List (List Int)} (hG : Gr adj) {par : List Int} (hl : par.length = adj.length) (hF : Fo par) (hE : Edges adj par adj.length) {v w : Nat} (h : nbp adj v w) : rt par v = rt par w := by
  have hlt := nbp_lt hG h
  have key : ∀ {v w : Nat}, nbp adj v w → w < v → rt par v = rt par w := by
    intro v w h hvw
    have hlt := nbp_lt hG h
    obtain ⟨l, h1, h2⟩ := h
    exact (rt_up hF (by omega) (hE v l w hlt.1 h1 h2 hvw)).symm
  obtain ⟨l, h1, h2⟩ := h
  have h3 := hG.rng v l _ h1 h2
  rcases Nat.lt_trichotomy v w with h4 | h4 | h4
  · exact (key (nbp_sym hG ⟨l, h1, h2⟩) h4).symm
  · omega
  · exact key ⟨l, h1, h2⟩ h4

def QC (adj : List (List Int)) (par : List Int) : Prop := ∀ (u q : Nat), par[u]? = some (q : Int) → ∀ S : Nat → Prop, (∀ v w, S v → nbp adj v w → S w) → S u → S q
theorem QC.up {adj : List (List Int)} {par : List Int} (h : QC adj par) {u a : Nat} (hu : Up par u a) (S : Nat → Prop) (hS : ∀ v w, S v → nbp adj v w → S w) : S u → S a :=
  Up.ind (P := fun u a => S u → S a) (fun _ h => h) (fun u q a hq _ ih hs => ih (h u q hq S hS hs)) hu
theorem QC.step {adj : List (List Int)} (hG : Gr adj) {par : List Int} (h : QC adj par) {v w u0 : Nat} (hn : nbp adj v w) (hu : Up par w u0) (h0 : par[u0]? = some (-1)) : QC adj (par.set u0 (v : Int)) := by
  intro u q hq S hS hs
  rw [List.getElem?_set] at hq
  by_cases hu0 : u0 = u
  · subst hu0
    have hl : u0 < par.length := (List.getElem?_eq_some_iff.1 h0).1
    rw [if_pos rfl, if_pos hl] at hq
    have : v = q := by have := Option.some.inj hq; omega
    subst this
    refine Classical.byContradiction fun hc => ?_
    have hS' : ∀ a b, ¬ S a → nbp adj a b → ¬ S b := fun a b ha hab hb => ha (hS b a hb (nbp_sym hG hab))
    exact h.up hu (fun u => ¬ S u) hS' (hS' v w hc hn) hs
  · rw [if_neg hu0] at hq
    exact h u q hq S hS hs

theorem QC.init {adj : List (List Int)} (n : Nat) : QC adj (List.replicate n (-1)) := by
  intro u q hq S hS hs
  have h1 : (q : Int) = -1 := rep_mem hq
  have h2 : ¬ (q : Int) = -1 := by omega
  exact absurd h1 h2

theorem climbr_ok {par : List Int} (hF : Fo par) (hn : par.length ≤ 200) {t : List Int} (ht : t.length = par.length) {v : Nat} (hv : v < par.length) (htv : t[v]? = some (v : Int)) :
    Ret (loop (sparselaw19_EtreeComponents_l75 (v : Int) (par, 0)) t) (fun s => s = t.set v (rt par v : Int)) := by
  refine ret_loop par.length (fun k s => ∃ u : Nat, s = t.set v (u : Int) ∧ Up par v u ∧ k ≤ u) ⟨v, ?_, Up.refl _ _, by omega⟩ ?_
  · apply List.ext_getElem?
    intro i
    rw [List.getElem?_set]
    by_cases h : v = i
    · subst h; rw [if_pos rfl, if_pos (by omega), htv]
    · rw [if_neg h]
  · rintro k s hk ⟨u, rfl, hu, hku⟩
    have hul := hu.lt hF hv
    have hgu : par[u]? = some par[u] := by simp [hul]
    have e1 : getI (t.set v (u : Int)) (v : Int) = some (u : Int) := by rw [getI_cast, List.getElem?_set, if_pos rfl, if_pos (by omega)]
    have e2 : getI par (u : Int) = some par[u] := getI_lt hul
    unfold sparselaw19_EtreeComponents_l75
    simp only [ret_bind, ret_if, ret_get, ret_set, ret_app, ret_mkL, ret_sli, ret_wr, ret_wq, ret_some, vq_l, vq_r, Int.toNat_natCast, if_true, if_false, Option.bind_some, decide_false, decide_true, Bool.false_eq_true, Bool.not_true, Bool.not_false, not_true_eq_false, not_false_eq_true, true_implies, false_implies, reduceCtorEq, e1, e2]
    refine ⟨fun h => ⟨by omega, by simp; omega, by omega, ?_⟩, fun h => ?_⟩
    · obtain ⟨q, hq⟩ := Int.eq_ofNat_of_zero_le h
      have h1 : par[u]? = some (q : Int) := by rw [hgu, hq]
      have h2 := hF u hul _ h1
      exact ⟨q, by rw [hq, List.set_set], hu.trans (Up.one h1), by omega⟩
    · have h1 : par[u]? = some (-1) := by rcases hF u hul _ hgu with h3 | h3; rw [hgu, h3]; omega
      rw [rt_of hF hv hu h1]

theorem roots_ok {par : List Int} (hF : Fo par) (hn : par.length ≤ 200) :
    Ret (loop (sparselaw19_EtreeComponents_l7 (par.length : Int) (par, 0)) (0, List.replicate par.length 0, 0)) (fun s => s.1 = (((List.range par.length).filter fun u => decide (par[u]? = some (-1))).length : Int) ∧ s.2.length = par.length ∧ ∀ v : Nat, v < par.length → s.2[v]? = some (rt par v : Int)) := by
  refine ret_loop par.length (fun k (s : Int × List Int × Int) => s.2.2 = k ∧ s.1 = (((List.range k).filter fun u => decide (par[u]? = some (-1))).length : Int) ∧ s.2.1.length = par.length ∧ ∀ v : Nat, v < k → s.2.1[v]? = some (rt par v : Int)) ⟨rfl, by simp, by simp, fun v h => by omega⟩ ?_
  rintro k ⟨c, t, i⟩ hk ⟨rfl, rfl, h1, h2⟩
  simp only at h1 h2
  have hfl : ((List.range k).filter fun u => decide (par[u]? = some (-1))).length ≤ k := by
    have := List.length_filter_le (fun u => decide (par[u]? = some (-1))) (List.range k)
    simpa using this
  unfold sparselaw19_EtreeComponents_l7 sparselaw19_EtreeComponents_j76
  by_cases hkl : k < par.length
  · have e5 : (k : Int) < (par.length : Int) := by omega
    simp only [ret_bind, ret_if, ret_get, ret_set, ret_app, ret_mkL, ret_sli, ret_wr, ret_wq, ret_some, vq_l, vq_r, Int.toNat_natCast, if_true, if_false, Option.bind_some, decide_false, decide_true, Bool.false_eq_true, Bool.not_true, Bool.not_false, not_true_eq_false, not_false_eq_true, true_implies, false_implies, reduceCtorEq, e5]
    refine ⟨by omega, by omega, ?_⟩
    refine ret_call (climbr_ok hF hn (t := t.set k (k : Int)) (by simp; omega) hkl (by rw [List.getElem?_set, if_pos rfl, if_pos (by omega)])) ?_
    rintro s rfl
    have e1 : ((t.set k (k : Int)).set k (rt par k : Int))[k]? = some (rt par k : Int) := by rw [List.getElem?_set, if_pos rfl, if_pos (by simp; omega)]
    have hgk : par[k]? = some par[k] := by simp [hkl]
    have hrk := rt_spec hF hkl
    have hiff : (rt par k : Int) = (k : Int) ↔ par[k]? = some (-1) := by
      constructor
      · intro h
        have : rt par k = k := by omega
        rw [this] at hrk; exact hrk.2
      · intro h
        rw [rt_of hF hkl (Up.refl _ _) h]
    have hw : wa .i64 (k : Int) 1 = ((k + 1 : Nat) : Int) := wa1 (by omega)
    have hres : ((t.set k (k : Int)).set k (rt par k : Int)).length = par.length ∧ ∀ v : Nat, v < k + 1 → ((t.set k (k : Int)).set k (rt par k : Int))[v]? = some (rt par v : Int) := by
      refine ⟨by simp; omega, fun v hv => ?_⟩
      rw [List.set_set, List.getElem?_set]
      by_cases hvk : k = v
      · subst hvk; rw [if_pos rfl, if_pos (by omega)]
      · rw [if_neg hvk]; exact h2 v (by omega)
    simp only [ret_bind, ret_if, ret_get, ret_set, ret_app, ret_mkL, ret_sli, ret_wr, ret_wq, ret_some, vq_l, vq_r, Int.toNat_natCast, if_true, if_false, Option.bind_some, decide_false, decide_true, Bool.false_eq_true, Bool.not_true, Bool.not_false, not_true_eq_false, not_false_eq_true, true_implies, false_implies, reduceCtorEq, e1, hw, Option.some.injEq, forall_eq']
    rw [List.range_succ, List.filter_append]
    refine ⟨by omega, by simp; omega, ?_⟩
    refine ⟨fun h => ⟨hkl, trivial, ?_, hres⟩, fun h => ⟨hkl, trivial, ?_, hres⟩⟩
    · rw [wa_i (by omega) (by omega)]
      simp [hiff.1 h]
    · have : ¬ par[k]? = some (-1) := fun hc => h (hiff.2 hc)
      simp only [this, decide_false, List.filter_cons, List.filter_nil, Bool.false_eq_true, if_false, List.append_nil]
  · have : k = par.length := by omega
    subst this
    have e5 : ¬ (par.length : Int) < (par.length : Int) := by omega
    simp only [ret_bind, ret_if, ret_get, ret_set, ret_app, ret_mkL, ret_sli, ret_wr, ret_wq, ret_some, vq_l, vq_r, Int.toNat_natCast, if_true, if_false, Option.bind_some, decide_false, decide_true, Bool.false_eq_true, Bool.not_true, Bool.not_false, not_true_eq_false, not_false_eq_true, true_implies, false_implies, reduceCtorEq, e5]
    exact ⟨trivial, h1, h2⟩

theorem etreeComponents_true (x1 : Int) (x2 : List Int) : sparselaw19_EtreeComponents x1 x2 = some true := by
  unfold sparselaw19_EtreeComponents
  by_cases hc : (80 : Int) < (x2.length : Int)
  · rw [if_pos hc, awake19]; rfl
  · rw [if_neg hc]
    obtain ⟨n, hp, hn⟩ := place_ok x1 13 (by omega) (by omega)
    have hp' : sparsekit_Place x1 13 = some (n : Int) := hp
    obtain ⟨b, hb⟩ := graph_ok (n := n) (by omega) x2 (by omega)
    have hG := nbr_gr b n
    have hadjl : ((List.range n).map fun k => nbr b k n).length = n := by simp
    generalize hadj : ((List.range n).map fun k => nbr b k n) = adj at hb hG hadjl
    subst hadjl
    obtain ⟨par, h1, h2, hF, hE, hQ⟩ := parent_ok hG (by omega) (QC adj) (QC.init adj.length) (fun v w u0 l par g1 g2 g3 _ _ _ g4 g5 g6 _ => g4.step hG ⟨l, g1, g2⟩ g5 g6)
    have c2 : sparseref19_Check par = some 0 := by
      rcases check_r par (by omega) with h | h
      · exact h.1
      · exact absurd hF h.2
    obtain ⟨out, c1, hC⟩ := components_ok hG (by omega)
    have hcl := hC.len
    rw [bindS hp', bindS hb, bindS h1, bindS c1]
    simp only [c2, h2, Option.bind_some, decide_true, Bool.not_true, Bool.or_self, Bool.false_eq_true, if_false]
    -- a component has one root, and holds it
    have hone : ∀ c, c ∈ out → ∀ v : Nat, (v : Int) ∈ c → v < adj.length ∧ (rt par v : Int) ∈ c ∧ ∃ r : Nat, c.head? = some (r : Int) ∧ r < adj.length ∧ rt par v = rt par r := by
      intro c hc v hv
      obtain ⟨r, r1, r2, r3⟩ := hC.cls c hc
      have hvl := r2.rng _ hv
      have hs := r2.min (fun u => rt par u = rt par r) rfl (fun v w _ hv hnb => by rw [← hv]; exact (rt_nb hG h2 hF hE hnb).symm) v hv
      refine ⟨by omega, ?_, r, r3, r1, hs⟩
      exact hQ.up (rt_spec hF (v := v) (by omega)).1 (fun u => (u : Int) ∈ c) (fun a b ha hab => r2.clo a b ha hab) hv
    have hcount : out.length = ((List.range par.length).filter fun u => decide (par[u]? = some (-1))).length := by
      have hp : (out.map fun c => rt par (c.headD 0).toNat).Perm ((List.range par.length).filter fun u => decide (par[u]? = some (-1))) := by
        refine (List.perm_ext_iff_of_nodup ?_ ?_).2 fun x => ?_
        · rw [List.nodup_iff_pairwise_ne, List.pairwise_map, List.pairwise_iff_getElem]
          intro i j hi hj hij he
          obtain ⟨r, r1, r2, r3⟩ := hC.cls _ (List.getElem_mem hi)
          obtain ⟨q, q1, q2, q3⟩ := hC.cls _ (List.getElem_mem hj)
          have a1 : (out[i].headD 0).toNat = r := by rw [List.headD_eq_head?_getD, r3]; simp
          have a2 : (out[j].headD 0).toNat = q := by rw [List.headD_eq_head?_getD, q3]; simp
          rw [a1, a2] at he
          have b1 := (hone _ (List.getElem_mem hi) r r2.mem).2.1
          have b2 := (hone _ (List.getElem_mem hj) q q2.mem).2.1
          rw [he] at b1
          exact List.pairwise_iff_getElem.1 hC.dis i j hi hj hij _ b1 b2
        · exact List.Pairwise.filter _ List.nodup_range
        · simp only [List.mem_map, List.mem_filter, List.mem_range, decide_eq_true_eq]
          constructor
          · rintro ⟨c, hc, rfl⟩
            obtain ⟨r, r1, r2, r3⟩ := hC.cls c hc
            have a1 : (c.headD 0).toNat = r := by rw [List.headD_eq_head?_getD, r3]; simp
            rw [a1]
            have hs := rt_spec hF (v := r) (by omega)
            exact ⟨hs.1.lt hF (by omega), hs.2⟩
          · rintro ⟨hx, hr⟩
            obtain ⟨c, hc, hxc⟩ := hC.all x (by omega)
            obtain ⟨_, _, r, r1, r2, r3⟩ := hone c hc x hxc
            refine ⟨c, hc, ?_⟩
            have a1 : (c.headD 0).toNat = r := by rw [List.headD_eq_head?_getD, r1]; simp
            rw [a1, ← r3, rt_of hF hx (Up.refl _ _) hr]
      simpa using hp.length_eq
    refine Ret.eq ?_
    rw [← h2, bindS (mkL_nat 0 par.length (by omega)), ret_bind]
    refine ret_call (roots_ok hF (by omega)) ?_
    rintro ⟨c, t⟩ ⟨t1, t2, t3⟩
    simp only at t1 t2 t3
    subst t1
    simp only
    rw [if_pos (by omega), ret_bind]
    refine ret_call (P := fun o => o = .inl ()) ?_ (by rintro _ rfl; simp only [ret_bind]; rw [ret_of awake19]; simp [ret_some])
    refine ret_loop out.length (fun k (s : Int) => s = k) rfl ?_
    rintro m s hm rfl
    unfold sparselaw19_EtreeComponents_l52
    by_cases hml : m < out.length
    · have hgm : getI out (m : Int) = some out[m] := getI_lt hml
      obtain ⟨r, r1, r2, r3⟩ := hC.cls _ (List.getElem_mem hml)
      have hlen := asc_len r2.asc r2.rng
      have hg0 : getI out[m] 0 = some (r : Int) := by
        rw [List.head?_eq_getElem?] at r3
        exact r3
      have hpos : 0 < out[m].length := List.length_pos_of_mem r2.mem
      have e5 : (m : Int) < (out.length : Int) := by omega
      simp only [ret_bind, ret_if, ret_get, ret_set, ret_app, ret_mkL, ret_sli, ret_wr, ret_wq, ret_some, vq_l, vq_r, Int.toNat_natCast, if_true, if_false, Option.bind_some, decide_false, decide_true, Bool.false_eq_true, Bool.not_true, Bool.not_false, not_true_eq_false, not_false_eq_true, true_implies, false_implies, reduceCtorEq, e5]
      refine ret_call (P := fun o => o = .inl ()) ?_ (by rintro _ rfl; simp only [ret_some, vq_l]; exact ⟨hml, wa1 (by omega)⟩)
      refine ret_loop out[m].length (fun k (s : Int) => s = k) rfl ?_
      rintro j s hj rfl
      unfold sparselaw19_EtreeComponents_l67
      by_cases hjl : j < out[m].length
      · have hgj : getI out[m] (j : Int) = some out[m][j] := getI_lt hjl
        have hx := r2.rng _ (List.getElem_mem hjl)
        obtain ⟨x, hxx⟩ := Int.eq_ofNat_of_zero_le hx.1
        obtain ⟨_, _, r', g1, g2, g3⟩ := hone _ (List.getElem_mem hml) x (hxx ▸ List.getElem_mem hjl)
        rw [r3] at g1
        have : r = r' := by have := Option.some.inj g1; omega
        subst this
        have e6 : (j : Int) < (out[m].length : Int) := by omega
        have e7 : ¬ (x : Int) < 0 := by omega
        have e8 : ¬ (par.length : Int) ≤ (x : Int) := by omega
        have e9 : getI t (x : Int) = some (rt par x : Int) := t3 x (by omega)
        have e10 : getI t (r : Int) = some (rt par r : Int) := t3 r (by omega)
        simp only [ret_bind, ret_if, ret_get, ret_set, ret_app, ret_mkL, ret_sli, ret_wr, ret_wq, ret_some, vq_l, vq_r, Int.toNat_natCast, if_true, if_false, Option.bind_some, decide_false, decide_true, Bool.false_eq_true, Bool.not_true, Bool.not_false, not_true_eq_false, not_false_eq_true, true_implies, false_implies, reduceCtorEq, hgm, hgj, hg0, e6, hxx, e7, e8, e9, e10, g3]
        exact ⟨hjl, wa1 (by omega)⟩
      · have e6 : ¬ (j : Int) < (out[m].length : Int) := by omega
        simp only [ret_bind, ret_if, ret_get, ret_set, ret_app, ret_mkL, ret_sli, ret_wr, ret_wq, ret_some, vq_l, vq_r, Int.toNat_natCast, if_true, if_false, Option.bind_some, decide_false, decide_true, Bool.false_eq_true, Bool.not_true, Bool.not_false, not_true_eq_false, not_false_eq_true, true_implies, false_implies, reduceCtorEq, hgm, e6]
    · have e5 : ¬ (m : Int) < (out.length : Int) := by omega
      simp only [ret_bind, ret_if, ret_get, ret_set, ret_app, ret_mkL, ret_sli, ret_wr, ret_wq, ret_some, vq_l, vq_r, Int.toNat_natCast, if_true, if_false, Option.bind_some, decide_false, decide_true, Bool.false_eq_true, Bool.not_true, Bool.not_false, not_true_eq_false, not_false_eq_true, true_implies, false_implies, reduceCtorEq, e5]
end Pl
