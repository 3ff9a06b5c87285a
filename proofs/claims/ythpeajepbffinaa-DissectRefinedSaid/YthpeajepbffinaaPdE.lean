/- Coarsening and cuts. -/
import Derived.Test.YthpeajepbffinaaPdD
set_option linter.unusedSimpArgs false
set_option linter.unusedVariables false
namespace Pd
open Pl Sx Go M Vc

def OkE (K : Nat) (g : Nat → Nat → Int) : Prop := ∀ a b, a < K → b < K → g a b ≤ 1099511627776
theorem wg_row {K : Nat} {g : Nat → Int} : (∀ x, x ∈ (nbs K g).map g → Wg x) ↔ ∀ b, b < K → g b ≤ 1099511627776 := by
  constructor
  · intro h b hb
    by_cases hp : 0 < g b
    · exact (h (g b) (List.mem_map.2 ⟨b, nbs_mem.2 ⟨hb, hp⟩, rfl⟩)).2
    · omega
  · intro h x hx
    obtain ⟨b, hb, rfl⟩ := List.mem_map.1 hx
    obtain ⟨h1, h2⟩ := nbs_mem.1 hb
    exact ⟨by omega, h b h1⟩

theorem build_rows {K : Nat} (hK : K ≤ 200) {X : List (List Int)} {f : Nat → Nat → Int} (hX : Tv X K f) :
    Ret (loop (dissect_coarsen_l35 X) (List.replicate K [], List.replicate K [], 0)) (fun o => (o = .inl (cadj K (cw f), ced K (cw f)) ∧ OkE K (cw f)) ∨ (o = .inr () ∧ ¬ OkE K (cw f))) := by
  have hXl := hX.1
  refine ret_loop K (fun k (t : List (List Int) × List (List Int) × Int) => t.2.2 = k ∧ t.1.length = K ∧ t.2.1.length = K ∧ (∀ a, a < K → t.1[a]? = some (if a < k then (nbs K (cw f a)).map Int.ofNat else []) ∧ t.2.1[a]? = some (if a < k then (nbs K (cw f a)).map (cw f a) else [])) ∧ ∀ a b, a < k → b < K → cw f a b ≤ 1099511627776) ⟨rfl, by simp, by simp, fun a ha => by simp [ha], fun a b ha => by omega⟩ ?_
  rintro k ⟨A, E, i⟩ hk ⟨rfl, h1, h2, h3, h4⟩
  simp only at h1 h2 h3
  unfold dissect_coarsen_l35
  by_cases hkn : k < K
  · obtain ⟨r, hr1, hr2, hr3⟩ := hX.2 k hkn
    have e1 : getI X (k : Int) = some r := hr1
    have e5 : (k : Int) < (X.length : Int) := by omega
    have hw : wa .i64 (k : Int) 1 = ((k + 1 : Nat) : Int) := wa1 (by omega)
    obtain ⟨a1, a2⟩ := h3 k hkn
    rw [if_neg (by omega)] at a1 a2
    have e2 := rows_ok hK hkn hr2 hr3 h1 h2 a1 a2
    have e3 : getI (E.set k ((nbs K (cw f k)).map (cw f k))) (k : Int) = some ((nbs K (cw f k)).map (cw f k)) := by rw [getI_cast, List.getElem?_set, if_pos rfl, if_pos (by omega)]
    have hnl := nbs_len (n := K) (f := cw f k)
    obtain ⟨b, b1, b2⟩ := weights_ok (l := (nbs K (cw f k)).map (cw f k)) (by rw [List.length_map]; omega)
    rw [wg_row] at b2
    cases b with
    | true =>
      simp only [ret_bind, ret_if, e5, ret_of e1, ret_of e2, ret_of e3, ret_of b1, ret_some, vq_l, vq_r, true_implies, not_true_eq_false, false_implies, and_true, hw]
      refine ⟨hkn, trivial, by simp [h1], by simp [h2], fun a ha => ?_, fun a c ha hc => ?_⟩
      · rw [List.getElem?_set, List.getElem?_set]
        by_cases hka : k = a
        · subst hka; rw [if_pos rfl, if_pos (by omega), if_pos rfl, if_pos (by omega), if_pos (by omega), if_pos (by omega)]; exact ⟨rfl, rfl⟩
        · rw [if_neg hka, if_neg hka, (h3 a ha).1, (h3 a ha).2]
          by_cases hak : a < k
          · rw [if_pos hak, if_pos hak, if_pos (show a < k + 1 by omega), if_pos (show a < k + 1 by omega)]; exact ⟨rfl, rfl⟩
          · rw [if_neg hak, if_neg hak, if_neg (show ¬ a < k + 1 by omega), if_neg (show ¬ a < k + 1 by omega)]; exact ⟨rfl, rfl⟩
      · by_cases hak : a < k
        · exact h4 a c hak hc
        · have : a = k := by omega
          subst this
          exact b2.1 rfl c hc
    | false =>
      simp only [ret_bind, ret_if, e5, ret_of e1, ret_of e2, ret_of e3, ret_of b1, ret_some, vq_l, vq_r, true_implies, not_true_eq_false, false_implies, and_true, Bool.false_eq_true, not_false_eq_true, true_and]
      refine .inr fun h => ?_
      have := b2.2 (fun c hc => h k c hkn hc)
      cases this
  · have e5 : ¬ (k : Int) < (X.length : Int) := by omega
    simp only [ret_if, e5, false_implies, not_false_eq_true, true_implies, true_and, ret_some, vq_r]
    refine .inl ⟨?_, fun a b ha hb => h4 a b (by omega) hb⟩
    congr 2
    · apply List.ext_getElem?
      intro a
      by_cases ha : a < K
      · rw [(h3 a ha).1, cadj_get ha, if_pos (by omega)]
      · rw [List.getElem?_eq_none (by omega), List.getElem?_eq_none (by rw [cadj_len]; omega)]
    · apply List.ext_getElem?
      intro a
      by_cases ha : a < K
      · rw [(h3 a ha).2, ced_get ha, if_pos (by omega)]
      · rw [List.getElem?_eq_none (by omega), List.getElem?_eq_none (by rw [ced_len]; omega)]

/-- what coarsening comes to -/
structure Co (n : Nat) (W : Nat → Nat → Int) (vx vs to : List Int) (B : Int) : Prop where
  mg : Mg vx n n vs to
  tb : ∀ a b, 0 ≤ tabS n W to n a b ∧ tabS n W to n a b ≤ (n * n : Nat) * B

open Classical in
theorem coarsen_ok {n : Nat} (hn : n ≤ 200) {W : Nat → Nat → Int} {B : Int} (hT : Tw n W B) (hB : 0 ≤ B ∧ B ≤ 1099511627776) {vx m : List Int} (hv : vx.length = n) (hvx : ∀ x, x ∈ vx → Wg x) (hM : Mt (cadj n W) m) :
    ∃ vs to, Co n W vx vs to B ∧ dissect_coarsen (cadj n W) vx (ced n W) m = some (if OkE vs.length (cw (tabS n W to n)) ∧ (∀ x, x ∈ vs → Wg x) then (cadj vs.length (cw (tabS n W to n)), vs, ced vs.length (cw (tabS n W to n)), to, true) else ([], [], [], [], false)) := by
  have hml := hM.len
  rw [cadj_len] at hml
  obtain ⟨⟨vs, to⟩, g1, hg⟩ := merge_ok hM hn cadj_len hv hvx
  simp only at hg
  have hvl := hg.vl
  obtain ⟨X, x1, x2⟩ := zeros_ok (K := vs.length) (by omega) (vs := vs) rfl
  obtain ⟨Y, y1, y2, y3⟩ := table_ok hn hT hB (K := vs.length) hg.tr x2
  obtain ⟨o, o1, o2⟩ := build_rows (K := vs.length) (by omega) y2
  refine ⟨vs, to, ⟨hg, y3⟩, ?_⟩
  unfold dissect_coarsen
  rw [hml, bindS (mkL_nat 0 n (by omega)), bindS g1]
  simp only
  rw [bindS (mkL_nat ([] : List Int) vs.length (by omega)), bindS x1, bindS y1, bindS (mkL_nat ([] : List Int) vs.length (by omega)), bindS (mkL_nat ([] : List Int) vs.length (by omega)), bindS o1]
  obtain ⟨b, b1, b2⟩ := weights_ok (l := vs) (by omega)
  rcases o2 with ⟨rfl, h⟩ | ⟨rfl, h⟩
  · simp only
    rw [bindS b1]
    cases b with
    | true => rw [if_pos rfl, if_pos ⟨h, b2.1 rfl⟩]
    | false =>
      rw [if_neg (by simp), if_neg]
      intro hh
      have := b2.2 hh.2
      cases this
  · simp only
    rw [if_neg (fun hh => h hh.1)]

theorem cw_tw {n : Nat} {W : Nat → Nat → Int} {B : Int} (hT : Tw n W B) {to : List Int} {K : Nat} {B' : Int} (hb : ∀ a b, a < K → b < K → 0 ≤ tabS n W to n a b ∧ cw (tabS n W to n) a b ≤ B') (hB' : 0 ≤ B') : Tw K (cw (tabS n W to n)) B' := by
  refine ⟨fun a b ha hb' => ?_, fun a b ha hb' => ?_, fun a ha => by unfold cw; rw [if_pos rfl]⟩
  · refine ⟨?_, (hb a b ha hb').2⟩
    unfold cw
    split
    · omega
    · exact (hb a b ha hb').1
  · unfold cw
    by_cases h : a = b
    · rw [if_pos h, if_pos h.symm]
    · rw [if_neg h, if_neg (fun e => h e.symm)]
      unfold tabS
      rw [sm_swap]
      refine sm_congr fun u hu => sm_congr fun v hv => ?_
      rw [hT.sym v u hv hu]
      by_cases h1 : tt to v = a ∧ tt to u = b
      · rw [if_pos h1, if_pos ⟨h1.2, h1.1⟩]
      · rw [if_neg h1, if_neg (fun e => h1 ⟨e.2, e.1⟩)]

/-! ### cuts -/
/-- the side of v -/
def sd (side : List Int) (v : Nat) : Int := side[v]?.getD 0
theorem sd_get {side : List Int} {v : Nat} {x : Int} (h : side[v]? = some x) : sd side v = x := by unfold sd; rw [h]; rfl
def cut (n : Nat) (W : Nat → Nat → Int) (s : Nat → Int) : Int := sm n fun v => sm n fun u => if u < v then (if s u = s v then 0 else W v u) else 0

theorem cut_row {n : Nat} (hn : n ≤ 200) {W : Nat → Nat → Int} {B : Int} (hT : Tw n W B) (hB : 0 ≤ B ∧ B ≤ 1099511627776) {side : List Int} (hs : side.length = n) {v : Nat} (hv : v < n) {c : Int} (hc : 0 ≤ c ∧ c ≤ 50000 * 1099511627776) :
    loop (dissect_Cut_l36 ((nbs n (W v)).map Int.ofNat) (v : Int) side (ced n W)) (c, 0) = some (c + sm n fun u => if u < v then (if sd side u = sd side v then 0 else W v u) else 0) := by
  have hnl := nbs_len (n := n) (f := W v)
  have hll : ((nbs n (W v)).map Int.ofNat).length = (nbs n (W v)).length := by simp
  have hget : ∀ u, u < n → side[u]? = some (sd side u) := by
    intro u hu
    obtain ⟨x, hx⟩ : ∃ x, side[u]? = some x := ⟨side[u]'(by omega), by simp [show u < side.length by omega]⟩
    rw [sd_get hx]; exact hx
  have hsum : (sm n fun u => if u < v then (if sd side u = sd side v then 0 else W v u) else 0) = ((nbs n (W v)).map fun u => if u < v then (if sd side u = sd side v then 0 else W v u) else 0).sum := by
    rw [nbs_sum]
    refine sm_congr fun u hu => ?_
    by_cases h : 0 < W v u
    · rw [if_pos h]
    · have := hT.nn v u hv hu
      rw [if_neg h]; split
      · split <;> omega
      · rfl
  rw [hsum]
  refine Ret.eq ?_
  refine ret_loop (nbs n (W v)).length (fun k (t : Int × Int) => t.2 = k ∧ t.1 = c + (((nbs n (W v)).take k).map fun u => if u < v then (if sd side u = sd side v then 0 else W v u) else 0).sum ∧ 0 ≤ (((nbs n (W v)).take k).map fun u => if u < v then (if sd side u = sd side v then 0 else W v u) else 0).sum ∧ (((nbs n (W v)).take k).map fun u => if u < v then (if sd side u = sd side v then 0 else W v u) else 0).sum ≤ k * B) ⟨rfl, by simp, by simp, by simp⟩ ?_
  rintro k ⟨t, i⟩ hk ⟨rfl, h1, h2, h3⟩
  simp only at h1
  subst h1
  unfold dissect_Cut_l36 dissect_Cut_j40
  by_cases hkl : k < (nbs n (W v)).length
  · obtain ⟨u, hu⟩ : ∃ u, (nbs n (W v))[k]? = some u := ⟨(nbs n (W v))[k], by simp [hkl]⟩
    obtain ⟨hun, hpos⟩ := nbs_mem.1 (List.mem_of_getElem? hu)
    have hwr := hT.nn v u hv hun
    have e0 : getI ((nbs n (W v)).map Int.ofNat) (k : Int) = some (u : Int) := by rw [getI_cast, List.getElem?_map, hu]; rfl
    have e1 : getI side (u : Int) = some (sd side u) := hget u hun
    have e2 : getI side (v : Int) = some (sd side v) := hget v hv
    have e6 : getI (ced n W) (v : Int) = some ((nbs n (W v)).map (W v)) := ced_get hv
    have e7 : getI ((nbs n (W v)).map (W v)) (k : Int) = some (W v u) := by rw [getI_cast, List.getElem?_map, hu]; rfl
    have e5 : (k : Int) < (((nbs n (W v)).map Int.ofNat).length : Int) := by omega
    have hw : wa .i64 (k : Int) 1 = ((k + 1 : Nat) : Int) := wa1 (by omega)
    have gk : (k : Int) * B ≤ 200 * 1099511627776 := Int.le_trans (Int.mul_le_mul_of_nonneg_right (show (k : Int) ≤ 200 by omega) hB.1) (Int.mul_le_mul_of_nonneg_left hB.2 (by omega))
    have hk1 : ((k + 1 : Nat) : Int) * B = k * B + B := by rw [Int.natCast_add, Int.add_mul]; omega
    have hts : (((nbs n (W v)).take (k + 1)).map fun u => if u < v then (if sd side u = sd side v then 0 else W v u) else 0).sum = (((nbs n (W v)).take k).map fun u => if u < v then (if sd side u = sd side v then 0 else W v u) else 0).sum + (if u < v then (if sd side u = sd side v then 0 else W v u) else 0) := by
      rw [tks hu, List.map_append, List.sum_append]; simp
    rw [hts, hk1]
    generalize (((nbs n (W v)).take k).map fun u => if u < v then (if sd side u = sd side v then 0 else W v u) else 0).sum = S at *
    by_cases huv : u < v
    · have e8 : (u : Int) < (v : Int) := by omega
      by_cases hsd : sd side u = sd side v
      · simp only [ret_bind, ret_if, ret_get, ret_set, ret_app, ret_mkL, ret_sli, ret_wr, ret_wq, ret_some, vq_l, vq_r, Int.toNat_natCast, if_true, if_false, obs, decide_false, decide_true, Bool.false_eq_true, Bool.not_true, Bool.not_false, not_true_eq_false, not_false_eq_true, true_implies, false_implies, reduceCtorEq, true_and, and_true, false_and, or_false, false_or, implies_true, e0, e1, e2, e5, e8, hsd, hw]
        rw [if_pos huv]
        exact ⟨hkl, by omega, by omega, by omega⟩
      · have hw2 : wa .i64 (c + S) (W v u) = c + S + W v u := wa_i (by omega) (by omega)
        simp only [ret_bind, ret_if, ret_get, ret_set, ret_app, ret_mkL, ret_sli, ret_wr, ret_wq, ret_some, vq_l, vq_r, Int.toNat_natCast, if_true, if_false, obs, decide_false, decide_true, Bool.false_eq_true, Bool.not_true, Bool.not_false, not_true_eq_false, not_false_eq_true, true_implies, false_implies, reduceCtorEq, true_and, and_true, false_and, or_false, false_or, implies_true, e0, e1, e2, e5, e6, e7, e8, hsd, hw2, hw]
        rw [if_pos huv]
        exact ⟨hkl, by omega, by omega, by omega⟩
    · have e8 : ¬ (u : Int) < (v : Int) := by omega
      simp only [ret_bind, ret_if, ret_get, ret_set, ret_app, ret_mkL, ret_sli, ret_wr, ret_wq, ret_some, vq_l, vq_r, Int.toNat_natCast, if_true, if_false, obs, decide_false, decide_true, Bool.false_eq_true, Bool.not_true, Bool.not_false, not_true_eq_false, not_false_eq_true, true_implies, false_implies, reduceCtorEq, true_and, and_true, false_and, or_false, false_or, implies_true, e0, e5, e8, hw]
      rw [if_neg huv]
      exact ⟨hkl, by omega, by omega, by omega⟩
  · have e5 : ¬ (k : Int) < (((nbs n (W v)).map Int.ofNat).length : Int) := by omega
    rw [take_all (by omega)]
    simp only [ret_bind, ret_if, ret_get, ret_set, ret_app, ret_mkL, ret_sli, ret_wr, ret_wq, ret_some, vq_l, vq_r, Int.toNat_natCast, if_true, if_false, obs, decide_false, decide_true, Bool.false_eq_true, Bool.not_true, Bool.not_false, not_true_eq_false, not_false_eq_true, true_implies, false_implies, reduceCtorEq, true_and, and_true, false_and, or_false, false_or, implies_true, e5]

def S01 (side : List Int) : Prop := ∀ x, x ∈ side → x = 0 ∨ x = 1
theorem s01_ok {side : List Int} (h : S01 side) (hl : side.length ≤ 100000) : slices_ContainsFunc_int_v3 side = some false := by
  have : slices_IndexFunc_int_v3 side = some (-1) := by
    refine Ret.eq ?_
    unfold slices_IndexFunc_int_v3
    rw [ret_bind]
    refine ret_call (P := fun o => o = .inl ()) ?_ (by rintro _ rfl; simp only [ret_some])
    refine ret_loop side.length (fun k (t : Int) => t = (k : Int)) rfl ?_
    rintro k _ hk rfl
    unfold slices_IndexFunc_int_v3_l1 dissect_Cut_1
    by_cases hkl : k < side.length
    · have e1 : getI side (k : Int) = some side[k] := getI_lt hkl
      have e5 : (k : Int) < (side.length : Int) := by omega
      have hw : wa .i64 (k : Int) 1 = ((k + 1 : Nat) : Int) := wa1 (by omega)
      have e6 : (!(decide (side[k] = 0)) && !(decide (side[k] = 1))) = false := by
        rcases h _ (List.getElem_mem hkl) with h | h <;> simp [h]
      simp only [ret_bind, ret_if, ret_get, ret_set, ret_app, ret_mkL, ret_sli, ret_wr, ret_wq, ret_some, vq_l, vq_r, Int.toNat_natCast, if_true, if_false, obs, decide_false, decide_true, Bool.false_eq_true, Bool.not_true, Bool.not_false, not_true_eq_false, not_false_eq_true, true_implies, false_implies, reduceCtorEq, true_and, and_true, false_and, or_false, false_or, implies_true, e1, e5, e6, hw]
      exact hkl
    · have e5 : ¬ (k : Int) < (side.length : Int) := by omega
      simp only [ret_bind, ret_if, ret_get, ret_set, ret_app, ret_mkL, ret_sli, ret_wr, ret_wq, ret_some, vq_l, vq_r, Int.toNat_natCast, if_true, if_false, obs, decide_false, decide_true, Bool.false_eq_true, Bool.not_true, Bool.not_false, not_true_eq_false, not_false_eq_true, true_implies, false_implies, reduceCtorEq, true_and, and_true, false_and, or_false, false_or, implies_true, e5]
  unfold slices_ContainsFunc_int_v3
  rw [bindS this]
  rfl

theorem cut_ok {n : Nat} (hn : n ≤ 200) {W : Nat → Nat → Int} {B : Int} (hT : Tw n W B) (hB : 0 ≤ B ∧ B ≤ 1099511627776) {vx : List Int} (hW : Wt (cadj n W) vx (ced n W)) {side : List Int} (hs : side.length = n) (h01 : S01 side) :
    dissect_Cut (cadj n W) vx (ced n W) side = some (cut n W (sd side), 0) := by
  have hvl := hW.vl
  rw [cadj_len] at hvl
  unfold dissect_Cut
  rw [bindS (checkW_ok hW (by rw [cadj_len]; exact hn)), if_pos rfl, if_pos (by omega), bindS (s01_ok h01 (by omega)), if_neg (by simp)]
  have : loop (dissect_Cut_l27 (cadj n W) side (ced n W)) (0, 0) = some (cut n W (sd side)) := by
    refine Ret.eq ?_
    have hb : ∀ k, k ≤ n → 0 ≤ (sm k fun v => sm n fun u => if u < v then (if sd side u = sd side v then 0 else W v u) else 0) ∧ (sm k fun v => sm n fun u => if u < v then (if sd side u = sd side v then 0 else W v u) else 0) ≤ 50000 * 1099511627776 := by
      intro k hk
      refine ⟨sm_nonneg fun v hv => sm_nonneg fun u hu => ?_, ?_⟩
      · have := hT.nn v u (by omega) hu; split
        · split <;> omega
        · omega
      · have h1 : (sm k fun v => sm n fun u => if u < v then (if sd side u = sd side v then 0 else W v u) else 0) ≤ k * (n * B) := sm_bound fun v hv => sm_bound fun u hu => by
          have := hT.nn v u (by omega) hu; split
          · split <;> omega
          · omega
        rw [← Int.mul_assoc, ← Int.natCast_mul] at h1
        have hkn : k * n ≤ 200 * 200 := Nat.mul_le_mul (by omega) hn
        have h2 : ((k * n : Nat) : Int) * B ≤ 50000 * 1099511627776 := Int.le_trans (Int.mul_le_mul_of_nonneg_right (show ((k * n : Nat) : Int) ≤ 50000 by omega) hB.1) (Int.mul_le_mul_of_nonneg_left hB.2 (by omega))
        omega
    refine ret_loop n (fun k (t : Int × Int) => t.2 = k ∧ t.1 = sm k fun v => sm n fun u => if u < v then (if sd side u = sd side v then 0 else W v u) else 0) ⟨rfl, rfl⟩ ?_
    rintro k ⟨t, i⟩ hk ⟨rfl, rfl⟩
    unfold dissect_Cut_l27
    have hcl : (cadj n W).length = n := cadj_len
    by_cases hkn : k < n
    · have e1 : getI (cadj n W) (k : Int) = some ((nbs n (W k)).map Int.ofNat) := cadj_get hkn
      have e5 : (k : Int) < ((cadj n W).length : Int) := by omega
      have hw : wa .i64 (k : Int) 1 = ((k + 1 : Nat) : Int) := wa1 (by omega)
      have e2 := cut_row hn hT hB hs hkn (hb k hk)
      simp only [ret_bind, ret_if, ret_get, ret_set, ret_app, ret_mkL, ret_sli, ret_wr, ret_wq, ret_some, vq_l, vq_r, Int.toNat_natCast, if_true, if_false, obs, decide_false, decide_true, Bool.false_eq_true, Bool.not_true, Bool.not_false, not_true_eq_false, not_false_eq_true, true_implies, false_implies, reduceCtorEq, true_and, and_true, false_and, or_false, false_or, implies_true, e1, e2, e5, hw]
      exact ⟨hkn, rfl⟩
    · have e5 : ¬ (k : Int) < ((cadj n W).length : Int) := by omega
      have : k = n := by omega
      subst this
      simp only [ret_bind, ret_if, ret_get, ret_set, ret_app, ret_mkL, ret_sli, ret_wr, ret_wq, ret_some, vq_l, vq_r, Int.toNat_natCast, if_true, if_false, obs, decide_false, decide_true, Bool.false_eq_true, Bool.not_true, Bool.not_false, not_true_eq_false, not_false_eq_true, true_implies, false_implies, reduceCtorEq, true_and, and_true, false_and, or_false, false_or, implies_true, e5]
      rfl
  rw [bindS this]

/-- twice the cut -/
theorem cut_twice {n : Nat} {W : Nat → Nat → Int} {B : Int} (hT : Tw n W B) (s : Nat → Int) : 2 * cut n W s = sm n fun v => sm n fun u => if s u = s v then 0 else W v u := by
  rw [sm_half (f := fun v u => if s u = s v then 0 else W v u) (fun i j hi hj => by
    rw [hT.sym i j hi hj]
    by_cases h : s j = s i
    · rw [if_pos h, if_pos h.symm]
    · rw [if_neg h, if_neg (fun e => h e.symm)]) (fun i hi => by rw [if_pos rfl])]
  rfl
theorem sm_ite {n : Nat} {c : Prop} [Decidable c] {f : Nat → Int} : (if c then 0 else sm n f) = sm n fun i => if c then 0 else f i := by
  by_cases h : c
  · rw [if_pos h, sm_zero (fun i _ => by rw [if_pos h])]
  · rw [if_neg h]; exact sm_congr fun i _ => by rw [if_neg h]

theorem cut_coarse {n K : Nat} {W : Nat → Nat → Int} {B : Int} (hT : Tw n W B) {to : List Int} (hto : ∀ u, u < n → tt to u < K) {B' : Int} (hT' : Tw K (cw (tabS n W to n)) B') (s : Nat → Int) : cut K (cw (tabS n W to n)) s = cut n W (fun v => s (tt to v)) := by
  have h1 := cut_twice hT' s
  have h2 := cut_twice hT (fun v => s (tt to v))
  have h3 : (sm K fun a => sm K fun b => if s b = s a then 0 else cw (tabS n W to n) a b) = sm n fun v => sm n fun u => if s (tt to u) = s (tt to v) then 0 else W v u := by
    have e1 : (sm K fun a => sm K fun b => if s b = s a then 0 else cw (tabS n W to n) a b) = sm K fun a => sm K fun b => sm n fun v => sm n fun u => if s b = s a then 0 else (if tt to v = a ∧ tt to u = b then W v u else 0) := by
      refine sm_congr fun a ha => sm_congr fun b hb => ?_
      have : (if s b = s a then 0 else cw (tabS n W to n) a b) = if s b = s a then 0 else tabS n W to n a b := by
        unfold cw
        by_cases hab : a = b
        · subst hab; rw [if_pos rfl, if_pos rfl]
        · rw [if_neg hab]
      rw [this]
      unfold tabS
      rw [sm_ite]
      exact sm_congr fun v _ => sm_ite
    rw [e1]
    have e2 : (sm K fun a => sm K fun b => sm n fun v => sm n fun u => if s b = s a then (0 : Int) else (if tt to v = a ∧ tt to u = b then W v u else 0)) = sm n fun v => sm n fun u => sm K fun a => sm K fun b => if s b = s a then (0 : Int) else (if tt to v = a ∧ tt to u = b then W v u else 0) := by
      have q1 : (sm K fun a => sm K fun b => sm n fun v => sm n fun u => if s b = s a then (0 : Int) else (if tt to v = a ∧ tt to u = b then W v u else 0)) = sm K fun a => sm n fun v => sm K fun b => sm n fun u => if s b = s a then (0 : Int) else (if tt to v = a ∧ tt to u = b then W v u else 0) := sm_congr fun a _ => sm_swap
      rw [q1, sm_swap]
      refine sm_congr fun v _ => ?_
      have q2 : (sm K fun a => sm K fun b => sm n fun u => if s b = s a then (0 : Int) else (if tt to v = a ∧ tt to u = b then W v u else 0)) = sm K fun a => sm n fun u => sm K fun b => if s b = s a then (0 : Int) else (if tt to v = a ∧ tt to u = b then W v u else 0) := sm_congr fun a _ => sm_swap
      rw [q2, sm_swap]
    rw [e2]
    refine sm_congr fun v hv => sm_congr fun u hu => ?_
    have q3 : (sm K fun a => sm K fun b => if s b = s a then (0 : Int) else (if tt to v = a ∧ tt to u = b then W v u else 0)) = sm K fun a => if tt to v = a then (if s (tt to u) = s a then 0 else W v u) else 0 := by
      refine sm_congr fun a _ => ?_
      rw [← sm_one' (n := K) (a := tt to u) (f := fun b => if tt to v = a then (if s b = s a then 0 else W v u) else 0) (hto u hu)]
      refine sm_congr fun b _ => ?_
      by_cases h4 : s b = s a
      · rw [if_pos h4]
        split
        · split
          · rfl
          · rfl
        · rfl
      · rw [if_neg h4]
        by_cases h5 : tt to v = a
        · by_cases h6 : tt to u = b
          · rw [if_pos ⟨h5, h6⟩, if_pos h6, if_pos h5, if_neg h4]
          · rw [if_neg (fun e => h6 e.2), if_neg h6]
        · rw [if_neg (fun e => h5 e.1), if_neg h5]
          split <;> rfl
    rw [q3, sm_one' (hto v hv)]
  omega
end Pd
