/- The law of the peripheral vertices over the models. -/
import Derived.Test.YtcknmegldjnjjaaPsM
import Derived.Test.YtcknmegldjnjjaaM4
set_option linter.unusedSimpArgs false
set_option linter.unusedVariables false
namespace Pl
open Sx Go M Vc

theorem levels_cls {adj : List (List Int)} (hG : Gr adj) (hn : adj.length ≤ 12) {v : Nat} (hv : v < adj.length) :
    ∃ out lev seen c, graph_levels adj (v : Int) = some out ∧ BF adj v lev seen out [] ∧ CC adj v c ∧ ∀ x, x ∈ out.flatten ↔ x ∈ c := by
  obtain ⟨out, lev, seen, h1, h2⟩ := levels_ok hG hn hv
  obtain ⟨o, c, k1, k2, k3, k4⟩ := comp_ok hG hn hv
  rw [h1] at k1
  obtain rfl := Option.some.inj k1
  have hfl : out.flatten.length ≤ adj.length := nodup_len _ _ h2.nodup fun x hx => by have := (h2.flat x).1 hx; exact ⟨this.1, this.2.1⟩
  obtain ⟨m, m1, m2, m3⟩ := sort_ok (l := out.flatten) (by omega)
  rw [m1] at k3
  obtain rfl := Option.some.inj k3
  exact ⟨out, lev, seen, m, h1, h2, k4, fun x => m2.mem_iff.symm⟩

def farR (adj : List (List Int)) (out : List (List Int)) : Option Int :=
  (getI out (ws .i64 (out.length : Int) 1)).bind fun x91 =>
  (getI x91 0).bind fun x93 =>
  (loop (graph_Peripheral_l13 x91 adj) (x93, 0)).bind fun x114 => some x114

theorem far_ok {adj : List (List Int)} {out : List (List Int)} (hlen : 0 < out.length) (hl2 : out.length ≤ 1000) (hne : ∀ l, l ∈ out → l ≠ []) (hr : ∀ l, l ∈ out → ∀ x, x ∈ l → 0 ≤ x ∧ x < adj.length) (hsz : ∀ l, l ∈ out → l.length ≤ 1000) : Ret (farR adj out) (fun w => w ∈ out.flatten ∧ 0 ≤ w ∧ w < adj.length) := by
  unfold farR
  have e : ws .i64 (out.length : Int) 1 = ((out.length - 1 : Nat) : Int) := by rw [ws_i (by omega) (by omega)]; omega
  have hk : out.length - 1 < out.length := by omega
  rw [e, bindS (getI_lt hk)]
  have hm := List.getElem_mem hk
  generalize out[out.length - 1] = l at hm
  have hlp := List.length_pos_iff.2 (hne l hm)
  have hll := hsz l hm
  have hg0 : getI l 0 = some l[0] := getI_lt hlp
  rw [bindS hg0]
  simp only [ret_bind, ret_some]
  refine ret_call (P := fun w => w ∈ l) ?_ (fun w hw => ⟨List.mem_flatten.2 ⟨l, hm, hw⟩, hr l hm w hw⟩)
  refine ret_loop l.length (fun k (s : Int × Int) => s.2 = k ∧ s.1 ∈ l) ⟨rfl, List.getElem_mem _⟩ ?_
  rintro k ⟨s, i⟩ hk2 ⟨rfl, hs⟩
  simp only at hs
  have hrs := hr l hm s hs
  unfold graph_Peripheral_l13 graph_Peripheral_j14
  by_cases hkl : k < l.length
  · obtain ⟨x, hx⟩ : ∃ x, l[k]? = some x := ⟨l[k], by simp [hkl]⟩
    have hxr := hr l hm x (mem_get hx)
    have e1 : getI l (k : Int) = some x := hx
    have e5 : (k : Int) < (l.length : Int) := by omega
    have e6 : getI adj x = some (adj[x.toNat]'(by omega)) := getI_of hxr.1 (by simp [show x.toNat < adj.length by omega])
    have e7 : getI adj s = some (adj[s.toNat]'(by omega)) := getI_of hrs.1 (by simp [show s.toNat < adj.length by omega])
    have hw : wa .i64 (k : Int) 1 = ((k + 1 : Nat) : Int) := wa1 (by omega)
    simp only [ret_bind, ret_if, ret_get, ret_set, ret_app, ret_mkL, ret_sli, ret_wr, ret_wq, ret_some, vq_l, vq_r, Int.toNat_natCast, if_true, if_false, obs, decide_false, decide_true, Bool.false_eq_true, Bool.not_true, Bool.not_false, not_true_eq_false, not_false_eq_true, true_implies, false_implies, reduceCtorEq, e1, e5, e6, e7, hw]
    exact ⟨fun _ => ⟨hkl, trivial, mem_get hx⟩, fun _ => ⟨hkl, trivial, hs⟩⟩
  · have e5 : ¬ (k : Int) < (l.length : Int) := by omega
    simp only [ret_bind, ret_if, ret_get, ret_set, ret_app, ret_mkL, ret_sli, ret_wr, ret_wq, ret_some, vq_l, vq_r, Int.toNat_natCast, if_true, if_false, obs, decide_false, decide_true, Bool.false_eq_true, Bool.not_true, Bool.not_false, not_true_eq_false, not_false_eq_true, true_implies, false_implies, reduceCtorEq, e5]
    exact hs

theorem per_step {adj : List (List Int)} {v : Int} {out r : List (List Int)} {w : Int} (h1 : farR adj out = some w) (h2 : graph_levels adj w = some r) :
    graph_Peripheral_l10 adj (v, out) = if (r.length : Int) ≤ (out.length : Int) then some (.inr v) else some (.inl (w, r)) := by
  unfold farR at h1
  unfold graph_Peripheral_l10
  simp only
  obtain ⟨l, g1, h1⟩ := bs h1
  obtain ⟨x, g2, h1⟩ := bs h1
  obtain ⟨z, g3, h1⟩ := bs h1
  obtain rfl := Option.some.inj h1
  rw [bindS g1, bindS g2, bindS g3, bindS h2]

theorem bf_pre {adj : List (List Int)} {root : Nat} {lev : Nat → Nat} {seen : List Bool} {out : List (List Int)} (h : BF adj root lev seen out []) (hr : root < adj.length) (hn : adj.length ≤ 12) :
    0 < out.length ∧ out.length ≤ adj.length ∧ (∀ l, l ∈ out → l ≠ []) ∧ (∀ l, l ∈ out → ∀ x, x ∈ l → 0 ≤ x ∧ x < adj.length) ∧ (∀ l, l ∈ out → l.length ≤ 1000) := by
  have hk : ∀ l, l ∈ out → l.Pairwise (· < ·) ∧ ∀ x, x ∈ l → 0 ≤ x ∧ x < adj.length := by
    intro l hl
    obtain ⟨k, hk⟩ := List.mem_iff_getElem?.1 hl
    have := h.lst k l (by rw [List.getElem?_append_left (List.getElem?_eq_some_iff.1 hk).1]; exact hk)
    exact ⟨this.1, this.2.1⟩
  refine ⟨?_, h.count, h.ne, fun l hl => (hk l hl).2, fun l hl => ?_⟩
  · have h1 := (h.rt root hr).2 rfl
    have h2 := h.lev_le root hr
    omega
  · have := asc_len (hk l hl).1 (hk l hl).2
    omega

theorem peripheral_ok {adj : List (List Int)} (hG : Gr adj) (hn : adj.length ≤ 12) {v : Nat} (hv : v < adj.length) {a : List (List Int)} (ha : graph_levels adj (v : Int) = some a) :
    Ret (graph_Peripheral adj (v : Int)) (fun p => ∃ (q : Nat) (b r : List (List Int)) (w : Int), p = (q : Int) ∧ q < adj.length ∧ p ∈ a.flatten ∧ graph_levels adj p = some b ∧ a.length ≤ b.length ∧ farR adj b = some w ∧ graph_levels adj w = some r ∧ r.length ≤ b.length) := by
  obtain ⟨a', lev, seen, c, h1, h2, h3, h4⟩ := levels_cls hG hn hv
  rw [ha] at h1
  obtain rfl := Option.some.inj h1
  have hchk := graphCheck_ok hG (show adj.length ≤ 200 by omega)
  unfold graph_Peripheral graph_vertex
  rw [bindS hchk]
  have e1 : ¬ (v : Int) < 0 := by omega
  have e2 : (v : Int) < (adj.length : Int) := by omega
  simp only [if_pos, Option.bind_some]
  have e3 : (0 : Int) ≤ (v : Int) := by omega
  simp only [e2, e3, decide_true, Bool.and_self, Bool.not_true, Bool.false_eq_true, if_false, ha, Option.bind_some, ret_bind, ret_some]
  refine ret_loop adj.length (fun k (s : Int × List (List Int)) => ∃ q : Nat, s.1 = (q : Int) ∧ q < adj.length ∧ s.1 ∈ a.flatten ∧ graph_levels adj s.1 = some s.2 ∧ a.length ≤ s.2.length ∧ k ≤ s.2.length) ⟨v, rfl, hv, (h4 _).2 h3.mem, ha, by simp, by simp⟩ ?_
  rintro k ⟨p, now⟩ hk ⟨q, rfl, hq, hpa, hnow, hla, hkn⟩
  simp only at hpa hnow hla hkn
  obtain ⟨now', lev', seen', c', g1, g2, g3, g4⟩ := levels_cls hG hn hq
  rw [hnow] at g1
  obtain rfl := Option.some.inj g1
  obtain ⟨p1, p2, p3, p4, p5⟩ := bf_pre g2 hq hn
  obtain ⟨w, w1, w2, w3, w4⟩ := far_ok p1 (by omega) p3 p4 p5
  obtain ⟨u, rfl⟩ := Int.eq_ofNat_of_zero_le w3
  have hu : u < adj.length := by omega
  obtain ⟨r, lev2, seen2, c2, k1, k2, k3, k4⟩ := levels_cls hG hn hu
  obtain ⟨_, q2, _⟩ := bf_pre k2 hu hn
  have hua : (u : Int) ∈ a.flatten := by
    rw [h4]
    exact g3.min (fun x => (x : Int) ∈ c) ((h4 _).1 hpa) (fun v w _ hs hnb => h3.clo v w hs hnb) u ((g4 _).1 w2)
  rw [per_step w1 k1]
  simp only [ret_if, ret_some, vq_l, vq_r]
  exact ⟨fun h => ⟨q, now, r, u, rfl, hq, hpa, hnow, hla, w1, k1, by omega⟩, fun h => ⟨by omega, u, rfl, hu, hua, k1, by omega, by omega⟩⟩

theorem per_again {adj : List (List Int)} (hG : Gr adj) (hn : adj.length ≤ 12) {q : Nat} (hq : q < adj.length) {b r : List (List Int)} {w : Int} (h1 : graph_levels adj (q : Int) = some b) (h2 : farR adj b = some w) (h3 : graph_levels adj w = some r) (h4 : r.length ≤ b.length) : graph_Peripheral adj (q : Int) = some (q : Int) := by
  have hchk := graphCheck_ok hG (show adj.length ≤ 200 by omega)
  unfold graph_Peripheral graph_vertex
  rw [bindS hchk]
  have e2 : (q : Int) < (adj.length : Int) := by omega
  have e3 : (0 : Int) ≤ (q : Int) := by omega
  simp only [e2, e3, if_pos, decide_true, Bool.and_self, Option.bind_some, Bool.not_true, Bool.false_eq_true, if_false, h1]
  have hs : graph_Peripheral_l10 adj ((q : Int), b) = some (.inr (q : Int)) := by rw [per_step h2 h3, if_pos (by omega)]
  have : loop (graph_Peripheral_l10 adj) ((q : Int), b) = some (q : Int) := by
    unfold loop
    obtain ⟨F, hF⟩ : ∃ F, FUEL = F + 1 := ⟨1099511627775, rfl⟩
    rw [hF]
    simp [loopN, hs]
  rw [bindS this]

theorem graphPeripheral_true (x1 : Int) (x2 : List Int) (x4 : Int) : sparselaw12_GraphPeripheral x1 x2 x4 = some true := by
  unfold sparselaw12_GraphPeripheral
  by_cases hc : (60 : Int) < (x2.length : Int)
  · rw [if_pos hc, awake12]; rfl
  · rw [if_neg hc]
    obtain ⟨z, hp, hz⟩ := place_ok x1 12 (by omega) (by omega)
    have hp' : sparsekit_Place x1 12 = some (z : Int) := hp
    have hw1 : wa .i64 1 (z : Int) = ((z + 1 : Nat) : Int) := by rw [wa_in (by constructor <;> omega)]; omega
    obtain ⟨b, hb⟩ := graph_ok (n := z + 1) (by omega) x2 (by omega)
    have hG := nbr_gr b (z + 1)
    have hadjl : ((List.range (z + 1)).map fun k => nbr b k (z + 1)).length = z + 1 := by simp
    generalize hadj : ((List.range (z + 1)).map fun k => nbr b k (z + 1)) = adj at hb hG hadjl
    obtain ⟨v, hq, hv⟩ := place_ok x4 (z + 1) (by omega) (by omega)
    have hvl : v < adj.length := by omega
    obtain ⟨a, lev, seen, c, a1, a2, a3, a4⟩ := levels_cls hG (by omega) hvl
    obtain ⟨p, p0, q, l, r, w, rfl, hql, hqa, q1, q2, q3, q4, q5⟩ := peripheral_ok hG (by omega) hvl a1
    have hag := per_again hG (by omega) hql q1 q3 q4 q5
    have hchk := graphCheck_ok hG (show adj.length ≤ 200 by omega)
    have hlev : ∀ (u : Nat) o, u < adj.length → graph_levels adj (u : Int) = some o → graph_Levels adj (u : Int) = some o := by
      intro u o hu ho
      unfold graph_Levels graph_vertex
      rw [bindS hchk]
      have e2 : (u : Int) < (adj.length : Int) := by omega
      have e3 : (0 : Int) ≤ (u : Int) := by omega
      simp [e2, e3, ho]
    rw [bindS hp', hw1, bindS hb, bindS hq, bindS p0]
    have e1 : decide ((q : Int) < 0) = false := decide_eq_false (by omega)
    have e2 : decide (((z + 1 : Nat) : Int) ≤ (q : Int)) = false := decide_eq_false (by omega)
    rw [e1, e2]
    simp only [Bool.or_self, Bool.false_eq_true, if_false, hag, Option.bind_some, decide_true, Bool.not_true]
    rw [hlev v a hvl a1, Option.bind_some, hlev q l hql q1, Option.bind_some]
    obtain ⟨p1, p2, p3, p4, p5⟩ := bf_pre a2 hvl (by omega)
    have e3 : decide ((a.length : Int) = 0) = false := decide_eq_false (by omega)
    have e4 : decide ((l.length : Int) < (a.length : Int)) = false := decide_eq_false (by omega)
    rw [e3, e4]
    simp only [Bool.or_self, Bool.false_eq_true, if_false]
    refine Ret.eq ?_
    rw [ret_bind]
    refine ret_call (P := fun x => x = true) ?_ (by rintro _ rfl; rw [if_pos rfl, awake12]; exact ⟨true, rfl, rfl⟩)
    obtain ⟨lq, lq1, lq2⟩ := List.mem_flatten.1 hqa
    obtain ⟨j, hj⟩ := List.mem_iff_getElem?.1 lq1
    refine ret_loop a.length (fun k (s : Bool × Int) => s.2 = k ∧ (j < k → s.1 = true)) ⟨rfl, fun h => absurd h (by omega)⟩ ?_
    rintro k ⟨s, i⟩ hk ⟨rfl, hs⟩
    simp only at hs
    unfold sparselaw12_GraphPeripheral_l5
    by_cases hka : k < a.length
    · have hgk : a[k]? = some a[k] := by simp [hka]
      have e6 : getI a (k : Int) = some a[k] := getI_lt hka
      have hl5 := p5 _ (List.getElem_mem hka)
      have e5 : (k : Int) < (a.length : Int) := by omega
      have hw : wa .i64 (k : Int) 1 = ((k + 1 : Nat) : Int) := wa1 (by omega)
      simp only [ret_bind, ret_if, ret_some, vq_l, vq_r, e5, e6, hw, kin_ok (show a[k].length < 1000000 by omega), true_implies, not_true_eq_false, false_implies, and_true]
      refine ⟨fun h => ⟨hka, trivial, fun _ => trivial⟩, fun h => ⟨hka, trivial, fun hjk => ?_⟩⟩
      by_cases hjk2 : j < k
      · exact absurd (hs hjk2) h
      · have : j = k := by omega
        subst this
        rw [hgk] at hj
        obtain rfl := Option.some.inj hj
        exact decide_eq_true lq2
    · have e5 : ¬ (k : Int) < (a.length : Int) := by omega
      have hjl := (List.getElem?_eq_some_iff.1 hj).1
      simp only [ret_bind, ret_if, ret_some, vq_l, vq_r, e5, false_implies, not_false_eq_true, true_implies, true_and]
      exact hs (by omega)
end Pl
