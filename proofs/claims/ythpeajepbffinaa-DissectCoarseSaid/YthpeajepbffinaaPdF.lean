/- DissectCoarse: coarsening keeps the weight and the cuts. -/
import Derived.Test.YthpeajepbffinaaPdE
namespace Pd
open Pl Sx Go M Vc
set_option linter.unusedVariables false
set_option linter.unusedSimpArgs false
set_option maxHeartbeats 4000000

theorem total_ok {vx : List Int} {n : Nat} (hn : n ≤ 200) (hl : vx.length = n) (hw : ∀ x, x ∈ vx → Wg x) (a e : List (List Int)) : sparseref18_Total a vx e = some (sm n (vw vx)) := by
  have hv : ∀ v, v < n → vx[v]? = some (vw vx v) ∧ 1 ≤ vw vx v ∧ vw vx v ≤ 1099511627776 := by
    intro v hvn
    obtain ⟨x, hx⟩ : ∃ x, vx[v]? = some x := ⟨vx[v]'(by omega), by simp [show v < vx.length by omega]⟩
    have := hw x (mem_get hx)
    rw [vw_get hx]
    exact ⟨hx, this.1, this.2⟩
  have hb : ∀ k, k ≤ n → 0 ≤ sm k (vw vx) ∧ sm k (vw vx) ≤ k * 1099511627776 := by
    intro k hk
    exact ⟨sm_nonneg fun i hi => by have := hv i (by omega); omega, sm_bound fun i hi => (hv i (by omega)).2.2⟩
  have h1 : loop (sparseref18_Total_l1 vx) (0, 0) = some (sm n (vw vx)) := by
    refine Ret.eq ?_
    refine ret_loop n (fun k (t : Int × Int) => t = (sm k (vw vx), (k : Int))) rfl ?_
    rintro k _ hk rfl
    unfold sparseref18_Total_l1
    by_cases hkn : k < n
    · obtain ⟨g1, g2, g3⟩ := hv k hkn
      have e1 : getI vx (k : Int) = some (vw vx k) := g1
      have e5 : (k : Int) < (vx.length : Int) := by omega
      have hw : wa .i64 (k : Int) 1 = ((k + 1 : Nat) : Int) := wa1 (by omega)
      obtain ⟨b1, b2⟩ := hb k hk
      have hk2 : (k : Int) * 1099511627776 ≤ 200 * 1099511627776 := by omega
      have hw2 : wa .i64 (sm k (vw vx)) (vw vx k) = sm (k + 1) (vw vx) := by
        rw [wa_in (by constructor <;> omega)]
        rfl
      clear hb
      simp only [ret_bind, ret_if, ret_get, ret_set, ret_app, ret_mkL, ret_sli, ret_wr, ret_wq, ret_some, vq_l, vq_r, Int.toNat_natCast, if_true, if_false, obs, decide_false, decide_true, Bool.false_eq_true, Bool.not_true, Bool.not_false, not_true_eq_false, not_false_eq_true, true_implies, false_implies, reduceCtorEq, true_and, and_true, false_and, or_false, false_or, implies_true, e1, e5, hw, hw2]
      omega
    · have e5 : ¬ (k : Int) < (vx.length : Int) := by omega
      have : k = n := by omega
      subst this
      simp only [ret_bind, ret_if, ret_get, ret_set, ret_app, ret_mkL, ret_sli, ret_wr, ret_wq, ret_some, vq_l, vq_r, Int.toNat_natCast, if_true, if_false, obs, decide_false, decide_true, Bool.false_eq_true, Bool.not_true, Bool.not_false, not_true_eq_false, not_false_eq_true, true_implies, false_implies, reduceCtorEq, true_and, and_true, false_and, or_false, false_or, implies_true, e5]
  unfold sparseref18_Total
  rw [bindS h1]

theorem mates_true {adj : List (List Int)} {m : List Int} (h : Mt adj m) (hn : adj.length ≤ 200) : dissect_mates m = some true := by
  have hml := h.len
  have h1 : loop (dissect_mates_l5 m) 0 = some (.inl ()) := by
    refine Ret.eq ?_
    refine ret_loop m.length (fun k (t : Int) => t = (k : Int)) rfl ?_
    rintro k _ hk rfl
    unfold dissect_mates_l5
    by_cases hkn : k < m.length
    · obtain ⟨u, hu⟩ : ∃ u, m[k]? = some u := ⟨m[k], by simp [hkn]⟩
      obtain ⟨g1, g2, g3⟩ := h.mate k u hu
      have e1 : getI m (k : Int) = some u := hu
      have e2 : getI m u = some (k : Int) := getI_of g1.1 g2
      have e5 : (k : Int) < (m.length : Int) := by omega
      have e6 : ¬ u < 0 := by omega
      have e7 : decide ((m.length : Int) ≤ u) = false := by simp; omega
      have e6' : decide (u < 0) = false := by simp; omega
      have hw : wa .i64 (k : Int) 1 = ((k + 1 : Nat) : Int) := wa1 (by omega)
      simp only [ret_bind, ret_if, ret_get, ret_set, ret_app, ret_mkL, ret_sli, ret_wr, ret_wq, ret_some, vq_l, vq_r, Int.toNat_natCast, if_true, if_false, obs, decide_false, decide_true, Bool.false_eq_true, Bool.not_true, Bool.not_false, not_true_eq_false, not_false_eq_true, true_implies, false_implies, reduceCtorEq, true_and, and_true, false_and, or_false, false_or, implies_true, e1, e2, e5, e6', e7, hw, Bool.or_false]
      omega
    · have e5 : ¬ (k : Int) < (m.length : Int) := by omega
      simp only [ret_bind, ret_if, ret_get, ret_set, ret_app, ret_mkL, ret_sli, ret_wr, ret_wq, ret_some, vq_l, vq_r, Int.toNat_natCast, if_true, if_false, obs, decide_false, decide_true, Bool.false_eq_true, Bool.not_true, Bool.not_false, not_true_eq_false, not_false_eq_true, true_implies, false_implies, reduceCtorEq, true_and, and_true, false_and, or_false, false_or, implies_true, e5]
  unfold dissect_mates
  rw [bindS h1]

theorem cut_congr {n : Nat} {W : Nat → Nat → Int} {s t : Nat → Int} (h : ∀ v, v < n → s v = t v) : cut n W s = cut n W t := by
  unfold cut
  refine sm_congr fun v hv => sm_congr fun u hu => ?_
  rw [h v hv, h u hu]

/-- the sides of the coarse vertices -/
theorem side_coarse {r20 : (List (List Int)) × (List Int) × (List (List Int)) × (List Int) × Int} {K : Nat} (hK : K ≤ 200) (hl : r20.2.1.length = K) (x6 : List Int) :
    ∃ cs, loop (sparselaw18_DissectCoarse_l23 r20 x6) ([], 0) = some cs ∧ cs.length = K ∧ S01 cs := by
  have h1 : Ret (loop (sparselaw18_DissectCoarse_l23 r20 x6) ([], 0)) (fun cs => cs.length = K ∧ S01 cs) := by
    refine ret_loop K (fun k (t : List Int × Int) => t.2 = (k : Int) ∧ t.1.length = k ∧ S01 t.1) ⟨rfl, rfl, fun x hx => by simp at hx⟩ ?_
    rintro k ⟨cs, j⟩ hk ⟨hj, h2, h3⟩
    simp only at hj h2 h3
    subst hj
    unfold sparselaw18_DissectCoarse_l23
    by_cases hkn : k < K
    · obtain ⟨z, q1, q2⟩ := place_ok (atF x6 (k : Int)) 2 (by omega) (by omega)
      have e1 := at_ok (l := x6) (i := (k : Int)) (by omega)
      have q1' : sparsekit_Place (atF x6 (k : Int)) 2 = some (z : Int) := q1
      have e5 : (k : Int) < (r20.2.1.length : Int) := by omega
      have hw : wa .i64 (k : Int) 1 = ((k + 1 : Nat) : Int) := wa1 (by omega)
      have e8 : app cs [(z : Int)] = some (cs ++ [(z : Int)]) := by
        unfold app BIG
        rw [if_pos]
        simp
        omega
      simp only [ret_bind, ret_if, ret_get, ret_set, ret_app, ret_mkL, ret_sli, ret_wr, ret_wq, ret_some, vq_l, vq_r, Int.toNat_natCast, if_true, if_false, obs, decide_false, decide_true, Bool.false_eq_true, Bool.not_true, Bool.not_false, not_true_eq_false, not_false_eq_true, true_implies, false_implies, reduceCtorEq, true_and, and_true, false_and, or_false, false_or, implies_true, ret_of e1, ret_of q1', ret_of e8, e5, hw]
      refine ⟨by simp; omega, hkn, by simp [h2], fun x hx => ?_⟩
      rcases List.mem_append.1 hx with hx | hx
      · exact h3 x hx
      · have := List.mem_singleton.1 hx
        omega
    · have e5 : ¬ (k : Int) < (r20.2.1.length : Int) := by omega
      simp only [ret_bind, ret_if, ret_get, ret_set, ret_app, ret_mkL, ret_sli, ret_wr, ret_wq, ret_some, vq_l, vq_r, Int.toNat_natCast, if_true, if_false, obs, decide_false, decide_true, Bool.false_eq_true, Bool.not_true, Bool.not_false, not_true_eq_false, not_false_eq_true, true_implies, false_implies, reduceCtorEq, true_and, and_true, false_and, or_false, false_or, implies_true, e5]
      exact ⟨by omega, h3⟩
  obtain ⟨cs, a, b⟩ := h1
  exact ⟨cs, a, b⟩

/-- the same sides, of the vertices -/
theorem side_fine {r20 : (List (List Int)) × (List Int) × (List (List Int)) × (List Int) × Int} {n K : Nat} (hn : n ≤ 200) (hl : r20.2.1.length = K) {to : List Int} (ht : r20.2.2.2.1 = to) (hto : ∀ v, v < n → ∃ a : Nat, to[v]? = some (a : Int) ∧ a < K) {cs : List Int} (hc : cs.length = K) (h01 : S01 cs) :
    ∃ fs, loop (sparselaw18_DissectCoarse_l26 (n : Int) r20 cs) ([], 0) = some (.inl fs) ∧ fs.length = n ∧ S01 fs ∧ ∀ v, v < n → sd fs v = sd cs (tt to v) := by
  subst ht
  have h1 : Ret (loop (sparselaw18_DissectCoarse_l26 (n : Int) r20 cs) ([], 0)) (fun o => ∃ fs, o = .inl fs ∧ fs.length = n ∧ S01 fs ∧ ∀ v, v < n → sd fs v = sd cs (tt r20.2.2.2.1 v)) := by
    refine ret_loop n (fun k (t : List Int × Int) => t.2 = (k : Int) ∧ t.1.length = k ∧ S01 t.1 ∧ ∀ v, v < k → sd t.1 v = sd cs (tt r20.2.2.2.1 v)) ⟨rfl, rfl, (fun x hx => by simp at hx), fun v hv => by omega⟩ ?_
    rintro k ⟨fs, j⟩ hk ⟨hj, h2, h3, h4⟩
    simp only at hj h2 h3 h4
    subst hj
    unfold sparselaw18_DissectCoarse_l26
    by_cases hkn : k < n
    · obtain ⟨a, a1, a2⟩ := hto k hkn
      obtain ⟨y, hy⟩ : ∃ y, cs[a]? = some y := ⟨cs[a]'(by omega), by simp [show a < cs.length by omega]⟩
      have e1 : getI r20.2.2.2.1 (k : Int) = some (a : Int) := a1
      have e2 : getI cs (a : Int) = some y := hy
      have e5 : (k : Int) < (n : Int) := by omega
      have e6 : ¬ (a : Int) < 0 := by omega
      have e7 : decide ((r20.2.1.length : Int) ≤ (a : Int)) = false := by simp; omega
      have hw : wa .i64 (k : Int) 1 = ((k + 1 : Nat) : Int) := wa1 (by omega)
      have e8 : app fs [y] = some (fs ++ [y]) := by
        unfold app BIG
        rw [if_pos]
        simp
        omega
      simp only [ret_bind, ret_if, ret_get, ret_set, ret_app, ret_mkL, ret_sli, ret_wr, ret_wq, ret_some, vq_l, vq_r, Int.toNat_natCast, if_true, if_false, obs, decide_false, decide_true, Bool.false_eq_true, Bool.not_true, Bool.not_false, not_true_eq_false, not_false_eq_true, true_implies, false_implies, reduceCtorEq, true_and, and_true, false_and, or_false, false_or, implies_true, ret_of e1, e5, e6, e7, hw]
      refine ⟨by omega, by omega, fun y' hy' => ?_⟩
      rw [hy] at hy'
      obtain rfl := Option.some.inj hy'
      refine ⟨by simp; omega, hkn, by simp [h2], fun x hx => ?_, fun v hv => ?_⟩
      · rcases List.mem_append.1 hx with hx | hx
        · exact h3 x hx
        · rw [List.mem_singleton.1 hx]; exact h01 y (mem_get hy)
      · by_cases hvk : v < k
        · rw [← h4 v hvk]
          unfold sd
          rw [List.getElem?_append_left (by omega)]
        · have : v = k := by omega
          subst this
          rw [tt_get a1, Int.toNat_natCast, sd_get hy]
          refine sd_get ?_
          rw [List.getElem?_append_right (by omega)]
          simp [h2]
    · have e5 : ¬ (k : Int) < (n : Int) := by omega
      have : k = n := by omega
      subst this
      simp only [ret_bind, ret_if, ret_get, ret_set, ret_app, ret_mkL, ret_sli, ret_wr, ret_wq, ret_some, vq_l, vq_r, Int.toNat_natCast, if_true, if_false, obs, decide_false, decide_true, Bool.false_eq_true, Bool.not_true, Bool.not_false, not_true_eq_false, not_false_eq_true, true_implies, false_implies, reduceCtorEq, true_and, and_true, false_and, or_false, false_or, implies_true, e5]
      exact ⟨fs, rfl, h2, h3, h4⟩
  obtain ⟨o, a, fs, rfl, b⟩ := h1
  exact ⟨fs, a, b⟩

theorem dissectCoarse_true (x1 : Int) (x2 x4 x6 : List Int) : sparselaw18_DissectCoarse x1 x2 x4 x6 = some true := by
  unfold sparselaw18_DissectCoarse
  by_cases hc : (decide ((90 : Int) < (x2.length : Int)) || decide ((60 : Int) < (x4.length : Int))) = true
  · rw [if_pos hc, awake18]; rfl
  · rw [if_neg hc]
    simp only [Bool.or_eq_true, decide_eq_true_eq] at hc
    obtain ⟨n, q1, q2⟩ := place_ok x1 25 (by omega) (by omega)
    have q1' : sparsekit_Place x1 25 = some (n : Int) := q1
    obtain ⟨adj, vx, ed, w1, hW, hlen, hvb, heb⟩ := weighted_ok (n := n) (by omega) x2 x4 (by omega)
    obtain ⟨m, _, m2, hM⟩ := pMatch_ok hW (by omega)
    have hml := hM.len
    obtain ⟨c1, c2, hT⟩ := hW.canon (B := 7) (by omega) heb
    rw [hlen] at c1 c2 hT
    generalize wof adj ed = W at c1 c2 hT
    have hvl := hW.vl
    have hvr := hW.vr
    have hchk := checkW_ok hW (by omega)
    subst c1
    subst c2
    rw [hlen] at hvl
    obtain ⟨vs, to, hC, k1⟩ := coarsen_ok (by omega) hT (by omega) hvl hvr hM
    have hg := hC.mg
    have hK : vs.length ≤ n := hg.vl
    have hto : ∀ v, v < n → ∃ a : Nat, to[v]? = some (a : Int) ∧ a < vs.length := hg.tr
    have htt : ∀ u, u < n → tt to u < vs.length := by
      intro u hu
      obtain ⟨a, a1, a2⟩ := hto u hu
      rw [tt_get a1]
      omega
    have hnn : (n * n : Nat) ≤ 576 := by
      have : n ≤ 24 := by omega
      exact Nat.le_trans (Nat.mul_le_mul this this) (by omega)
    have hvw : ∀ v, v < n → 1 ≤ vw vx v ∧ vw vx v ≤ 5 := by
      intro v hvn
      obtain ⟨x, hx⟩ : ∃ x, vx[v]? = some x := ⟨vx[v]'(by omega), by simp [show v < vx.length by omega]⟩
      rw [vw_get hx]
      exact ⟨(hvr x (mem_get hx)).1, hvb x (mem_get hx)⟩
    have hcb : ∀ a b, 0 ≤ tabS n W to n a b ∧ cw (tabS n W to n) a b ≤ 1099511627776 := by
      intro a b
      obtain ⟨t1, t2⟩ := hC.tb a b
      refine ⟨t1, ?_⟩
      unfold cw
      split
      · omega
      · have : ((n * n : Nat) : Int) ≤ 576 := by omega
        omega
    have hvs : ∀ x, x ∈ vs → Wg x := by
      intro x hx
      obtain ⟨a, ha, rfl⟩ := List.getElem_of_mem hx
      have h1 := hg.ws a ha
      rw [List.getElem?_eq_getElem ha] at h1
      rw [Option.some.inj h1]
      obtain ⟨v, v1, v2⟩ := hg.sj a ha
      have nn : ∀ i, i < n → 0 ≤ (if tt to i = a then vw vx i else 0) := by
        intro i hi
        have := hvw i hi
        split <;> omega
      have p1 := sm_pos nn v1
      simp only [if_pos v2] at p1
      have p2 := hvw v v1
      have p3 := sm_bound (n := n) (f := fun i => if tt to i = a then vw vx i else 0) (B := 5) (fun i hi => by
        have := hvw i hi
        show (if tt to i = a then vw vx i else 0) ≤ 5
        split <;> omega)
      have : ((n : Nat) : Int) * 5 ≤ 120 := by omega
      exact ⟨by omega, by omega⟩
    rw [if_pos ⟨fun a b _ _ => (hcb a b).2, hvs⟩] at k1
    have hT' : Tw vs.length (cw (tabS n W to n)) 1099511627776 := cw_tw hT (fun a b _ _ => hcb a b) (by omega)
    have hW' : Wt (cadj vs.length (cw (tabS n W to n))) vs (ced vs.length (cw (tabS n W to n))) := canon_wt hT' rfl hvs
    have hchk' := checkW_ok hW' (by rw [cadj_len]; omega)
    have hmt := mates_true hM (by omega)
    have kk : dissect_Coarsen (cadj n W) vx (ced n W) m = some (cadj vs.length (cw (tabS n W to n)), vs, ced vs.length (cw (tabS n W to n)), to, 0) := by
      unfold dissect_Coarsen
      rw [bindS hchk, if_pos rfl, if_pos (by omega), bindS hmt, if_pos rfl, bindS k1]
      simp only [if_true]
    have tot1 := total_ok (vx := vs) (n := vs.length) (by omega) rfl hvs (cadj vs.length (cw (tabS n W to n))) (ced vs.length (cw (tabS n W to n)))
    have tot2 := total_ok (vx := vx) (n := n) (by omega) hvl hvr (cadj n W) (ced n W)
    have tot : sm vs.length (vw vs) = sm n (vw vx) := by
      have t1 : sm vs.length (vw vs) = sm vs.length fun a => sm n fun v => if tt to v = a then vw vx v else 0 := sm_congr fun a ha => vw_get (hg.ws a ha)
      rw [t1, sm_swap]
      exact sm_congr fun v hv => sm_one (htt v hv)
    generalize hr : (cadj vs.length (cw (tabS n W to n)), vs, ced vs.length (cw (tabS n W to n)), to, (0 : Int)) = r20 at kk
    have r1 : r20.1 = cadj vs.length (cw (tabS n W to n)) := by rw [← hr]
    have r2 : r20.2.1 = vs := by rw [← hr]
    have r3 : r20.2.2.1 = ced vs.length (cw (tabS n W to n)) := by rw [← hr]
    have r4 : r20.2.2.2.1 = to := by rw [← hr]
    have r5 : r20.2.2.2.2 = 0 := by rw [← hr]
    obtain ⟨cs, s1, s2, s3⟩ := side_coarse (r20 := r20) (K := vs.length) (by omega) (by rw [r2]) x6
    obtain ⟨fs, f1, f2, f3, f4⟩ := side_fine (r20 := r20) (n := n) (by omega) (by rw [r2]) r4 hto s2 s3
    have cut1 := cut_ok (by omega) hT' (by omega) hW' s2 s3
    have cut2 := cut_ok (by omega) hT (by omega) hW f2 f3
    have ceq : cut vs.length (cw (tabS n W to n)) (sd cs) = cut n W (sd fs) := by
      rw [cut_coarse hT htt hT', cut_congr (fun v hv => f4 v hv)]
    have htl : to.length = n := hg.tl
    rw [bindS q1', bindS w1]
    simp only
    rw [bindS m2]
    simp only
    rw [bindS kk, r1, r2, r3, r4, r5, s1, bindS hchk', bindS tot1, bindS tot2, bindS rfl, f1]
    have g1 : decide ((to.length : Int) = (n : Int)) = true := by simp; omega
    have g2 : decide ((n : Int) < (vs.length : Int)) = false := by simp; omega
    simp [tot, g1, g2, cut1, cut2, ceq, awake18, htl]
    omega
end Pd
