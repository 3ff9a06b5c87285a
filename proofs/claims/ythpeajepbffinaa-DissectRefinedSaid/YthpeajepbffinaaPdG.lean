/- Refining does not raise the cut. -/
import Derived.Test.YthpeajepbffinaaPdE
namespace Pd
open Pl Sx Go M Vc
set_option linter.unusedVariables false
set_option linter.unusedSimpArgs false
set_option maxHeartbeats 4000000

theorem sm_iteR {n : Nat} {c : Prop} [Decidable c] {f : Nat → Int} : (sm n fun i => if c then f i else 0) = if c then sm n f else 0 := by
  by_cases h : c
  · rw [if_pos h]; exact sm_congr fun i _ => if_pos h
  · rw [if_neg h]; exact sm_zero fun i _ => if_neg h

/-- what moving x gains -/
def gn (n : Nat) (W : Nat → Nat → Int) (s : Nat → Int) (x : Nat) : Int := sm n fun u => if s u = s x then - W x u else W x u

theorem cut_flip {n : Nat} {W : Nat → Nat → Int} {B : Int} (hT : Tw n W B) {s : Nat → Int} (h01 : ∀ v, v < n → s v = 0 ∨ s v = 1) {x : Nat} (hx : x < n) :
    cut n W (fun v => if v = x then 1 - s x else s v) = cut n W s - gn n W s x := by
  have h1 := cut_twice hT s
  have h2 := cut_twice hT (fun v => if v = x then 1 - s x else s v)
  have key : (sm n fun v => sm n fun u => if (if u = x then 1 - s x else s u) = (if v = x then 1 - s x else s v) then 0 else W v u) + gn n W s x + gn n W s x = sm n fun v => sm n fun u => if s u = s v then 0 else W v u := by
    have a1 : gn n W s x = sm n fun v => sm n fun u => if x = v then (if s u = s x then - W x u else W x u) else 0 := by
      have : (sm n fun v => sm n fun u => if x = v then (if s u = s x then - W x u else W x u) else 0) = sm n fun v => if x = v then gn n W s x else 0 := sm_congr fun v _ => sm_iteR
      rw [this, sm_one hx]
    have a2 : gn n W s x = sm n fun v => sm n fun u => if x = u then (if s v = s x then - W x v else W x v) else 0 := by
      have : (sm n fun v => sm n fun u => if x = u then (if s v = s x then - W x v else W x v) else 0) = sm n fun v => (if s v = s x then - W x v else W x v) := sm_congr fun v _ => sm_one hx
      rw [this]; rfl
    have e : ∀ (a b c d : Int), b = c → b = d → a + c + d = a + b + b := by intros; omega
    rw [← e _ _ _ _ a1 a2, ← sm_add, ← sm_add]
    refine sm_congr fun v hv => ?_
    rw [← sm_add, ← sm_add]
    refine sm_congr fun u hu => ?_
    have hsx := h01 x hx
    have hsv := h01 v hv
    have hsu := h01 u hu
    by_cases hvx : x = v
    · subst hvx
      by_cases hux : x = u
      · subst hux
        have := hT.dg x hx
        simp [this]
      · have hux' : ¬ u = x := fun e => hux e.symm
        rw [if_neg hux', if_pos rfl, if_pos rfl, if_neg hux]
        by_cases hs : s u = s x
        · rw [if_pos hs, if_pos hs, if_neg (by omega)]; omega
        · rw [if_neg hs, if_neg hs, if_pos (by omega)]; omega
    · have hvx' : ¬ v = x := fun e => hvx e.symm
      rw [if_neg hvx', if_neg hvx]
      by_cases hux : x = u
      · subst hux
        rw [if_pos rfl, if_pos rfl, hT.sym x v hx hv]
        by_cases hs : s v = s x
        · rw [if_pos hs, if_neg (by omega), if_pos hs.symm]; omega
        · rw [if_neg hs, if_pos (by omega), if_neg (fun e => hs e.symm)]; omega
      · have hux' : ¬ u = x := fun e => hux e.symm
        rw [if_neg hux', if_neg hux]; omega
  omega

theorem gain_row {n : Nat} (hn : n ≤ 200) {W : Nat → Nat → Int} {B : Int} (hT : Tw n W B) (hB : 0 ≤ B ∧ B ≤ 1099511627776) {side : List Int} (hs : side.length = n) {v : Nat} (hv : v < n) :
    loop (dissect_refine_l72 ((nbs n (W v)).map Int.ofNat) side (sd side v) (ced n W) (v : Int)) (0, 0) = some (gn n W (sd side) v) := by
  have hnl := nbs_len (n := n) (f := W v)
  have hll : ((nbs n (W v)).map Int.ofNat).length = (nbs n (W v)).length := by simp
  have hget : ∀ u, u < n → side[u]? = some (sd side u) := by
    intro u hu
    obtain ⟨x, hx⟩ : ∃ x, side[u]? = some x := ⟨side[u]'(by omega), by simp [show u < side.length by omega]⟩
    rw [sd_get hx]; exact hx
  have hsum : gn n W (sd side) v = ((nbs n (W v)).map fun u => if sd side u = sd side v then - W v u else W v u).sum := by
    rw [nbs_sum]
    refine sm_congr fun u hu => ?_
    by_cases h : 0 < W v u
    · rw [if_pos h]
    · have := hT.nn v u hv hu
      rw [if_neg h]; split <;> omega
  rw [hsum]
  refine Ret.eq ?_
  refine ret_loop (nbs n (W v)).length (fun k (t : Int × Int) => t.2 = k ∧ t.1 = (((nbs n (W v)).take k).map fun u => if sd side u = sd side v then - W v u else W v u).sum ∧ -(k * B) ≤ (((nbs n (W v)).take k).map fun u => if sd side u = sd side v then - W v u else W v u).sum ∧ (((nbs n (W v)).take k).map fun u => if sd side u = sd side v then - W v u else W v u).sum ≤ k * B) ⟨rfl, by simp, by simp, by simp⟩ ?_
  rintro k ⟨t, i⟩ hk ⟨rfl, h1, h2, h3⟩
  simp only at h1
  subst h1
  unfold dissect_refine_l72 dissect_refine_j77
  by_cases hkl : k < (nbs n (W v)).length
  · obtain ⟨u, hu⟩ : ∃ u, (nbs n (W v))[k]? = some u := ⟨(nbs n (W v))[k], by simp [hkl]⟩
    obtain ⟨hun, hpos⟩ := nbs_mem.1 (List.mem_of_getElem? hu)
    have hwr := hT.nn v u hv hun
    have e0 : getI ((nbs n (W v)).map Int.ofNat) (k : Int) = some (u : Int) := by rw [getI_cast, List.getElem?_map, hu]; rfl
    have e1 : getI side (u : Int) = some (sd side u) := hget u hun
    have e6 : getI (ced n W) (v : Int) = some ((nbs n (W v)).map (W v)) := ced_get hv
    have e7 : getI ((nbs n (W v)).map (W v)) (k : Int) = some (W v u) := by rw [getI_cast, List.getElem?_map, hu]; rfl
    have e5 : (k : Int) < (((nbs n (W v)).map Int.ofNat).length : Int) := by omega
    have hw : wa .i64 (k : Int) 1 = ((k + 1 : Nat) : Int) := wa1 (by omega)
    have gk : (k : Int) * B ≤ 200 * 1099511627776 := Int.le_trans (Int.mul_le_mul_of_nonneg_right (show (k : Int) ≤ 200 by omega) hB.1) (Int.mul_le_mul_of_nonneg_left hB.2 (by omega))
    have hk1 : ((k + 1 : Nat) : Int) * B = k * B + B := by rw [Int.natCast_add, Int.add_mul]; omega
    have hts : (((nbs n (W v)).take (k + 1)).map fun u => if sd side u = sd side v then - W v u else W v u).sum = (((nbs n (W v)).take k).map fun u => if sd side u = sd side v then - W v u else W v u).sum + (if sd side u = sd side v then - W v u else W v u) := by
      rw [tks hu, List.map_append, List.sum_append]; simp
    rw [hts, hk1]
    generalize (((nbs n (W v)).take k).map fun u => if sd side u = sd side v then - W v u else W v u).sum = S at *
    by_cases hsd : sd side u = sd side v
    · have hw2 : ws .i64 S (W v u) = S + - W v u := by rw [ws_in (by constructor <;> omega)]; rfl
      simp only [ret_bind, ret_if, ret_get, ret_set, ret_app, ret_mkL, ret_sli, ret_wr, ret_wq, ret_some, vq_l, vq_r, Int.toNat_natCast, if_true, if_false, obs, decide_false, decide_true, Bool.false_eq_true, Bool.not_true, Bool.not_false, not_true_eq_false, not_false_eq_true, true_implies, false_implies, reduceCtorEq, true_and, and_true, false_and, or_false, false_or, implies_true, e0, e1, e5, e6, e7, hsd, hw2, hw]
      exact ⟨hkl, by omega, by omega⟩
    · have hw2 : wa .i64 S (W v u) = S + W v u := wa_i (by omega) (by omega)
      simp only [ret_bind, ret_if, ret_get, ret_set, ret_app, ret_mkL, ret_sli, ret_wr, ret_wq, ret_some, vq_l, vq_r, Int.toNat_natCast, if_true, if_false, obs, decide_false, decide_true, Bool.false_eq_true, Bool.not_true, Bool.not_false, not_true_eq_false, not_false_eq_true, true_implies, false_implies, reduceCtorEq, true_and, and_true, false_and, or_false, false_or, implies_true, e0, e1, e5, e6, e7, hsd, hw2, hw]
      exact ⟨hkl, by omega, by omega⟩
  · have e5 : ¬ (k : Int) < (((nbs n (W v)).map Int.ofNat).length : Int) := by omega
    rw [take_all (by omega)]
    simp only [ret_bind, ret_if, ret_get, ret_set, ret_app, ret_mkL, ret_sli, ret_wr, ret_wq, ret_some, vq_l, vq_r, Int.toNat_natCast, if_true, if_false, obs, decide_false, decide_true, Bool.false_eq_true, Bool.not_true, Bool.not_false, not_true_eq_false, not_false_eq_true, true_implies, false_implies, reduceCtorEq, true_and, and_true, false_and, or_false, false_or, implies_true, e5]

theorem st_ok {l : List Int} {x : Int} (y : Int) (hx : 0 ≤ x) (hl : x < l.length) : setI l x y = some (l.set x.toNat y) := by
  obtain ⟨k, rfl⟩ := Int.eq_ofNat_of_zero_le hx
  rw [setI_lt (by omega)]; rfl

theorem size_ok {n : Nat} (hn : n ≤ 200) {side vx : List Int} (hs : side.length = n) (h01 : S01 side) (hv : vx.length = n) : Ret (loop (dissect_refine_l1 side vx) ([0, 0], 0)) (fun o => o.length = 2) := by
  refine ret_loop n (fun k (t : List Int × Int) => t.2 = k ∧ t.1.length = 2) ⟨rfl, rfl⟩ ?_
  rintro k ⟨z, i⟩ hk ⟨rfl, h1⟩
  simp only at h1
  unfold dissect_refine_l1
  simp only
  by_cases hkn : k < n
  · obtain ⟨x, hx⟩ : ∃ x, side[k]? = some x := ⟨side[k]'(by omega), by simp [show k < side.length by omega]⟩
    obtain ⟨y, hy⟩ : ∃ y, vx[k]? = some y := ⟨vx[k]'(by omega), by simp [show k < vx.length by omega]⟩
    have hw : wa .i64 (k : Int) 1 = ((k + 1 : Nat) : Int) := wa1 (by omega)
    have hx01 := h01 x (mem_get hx)
    obtain ⟨a, ha⟩ : ∃ a, z[x.toNat]? = some a := ⟨z[x.toNat]'(by omega), by simp [show x.toNat < z.length by omega]⟩
    have e1 : getI side (k : Int) = some x := hx
    have e2 : getI vx (k : Int) = some y := hy
    have e3 : getI z x = some a := getI_of (by omega) ha
    have e5 : (k : Int) < (side.length : Int) := by omega
    rw [if_pos e5, bindS e1, bindS e3, bindS e2, bindS (st_ok (x := x) (wa .i64 a y) (by omega) (by omega)), hw]
    simp only [ret_bind, ret_if, ret_get, ret_set, ret_app, ret_mkL, ret_sli, ret_wr, ret_wq, ret_some, vq_l, vq_r, Int.toNat_natCast, if_true, if_false, obs, decide_false, decide_true, Bool.false_eq_true, Bool.not_true, Bool.not_false, not_true_eq_false, not_false_eq_true, true_implies, false_implies, reduceCtorEq, true_and, and_true, false_and, or_false, false_or, implies_true]
    exact ⟨hkn, by simp [h1]⟩
  · have e5 : ¬ (k : Int) < (side.length : Int) := by omega
    rw [if_neg e5]
    simp only [ret_bind, ret_if, ret_get, ret_set, ret_app, ret_mkL, ret_sli, ret_wr, ret_wq, ret_some, vq_l, vq_r, Int.toNat_natCast, if_true, if_false, obs, decide_false, decide_true, Bool.false_eq_true, Bool.not_true, Bool.not_false, not_true_eq_false, not_false_eq_true, true_implies, false_implies, reduceCtorEq, true_and, and_true, false_and, or_false, false_or, implies_true]
    exact h1

/-- what refining keeps -/
structure Rf (n : Nat) (W : Nat → Nat → Int) (C : Int) (side size : List Int) : Prop where
  sl : side.length = n
  s01 : S01 side
  le : cut n W (sd side) ≤ C
  zl : size.length = 2

theorem pass_ok {n : Nat} (hn : n ≤ 200) {W : Nat → Nat → Int} {B : Int} (hT : Tw n W B) (hB : 0 ≤ B ∧ B ≤ 1099511627776) {vx : List Int} (hv : vx.length = n) {C : Int} {side0 : List Int} (h0 : side0.length = n) (x26 x27 : Int) {side size : List Int} (h : Rf n W C side size) :
    Ret (loop (dissect_refine_l69 side0 (cadj n W) (ced n W) vx x26 x27) (side, size, false, 0)) (fun o => Rf n W C o.1 o.2.1) := by
  refine ret_loop n (fun k (t : List Int × List Int × Bool × Int) => t.2.2.2 = k ∧ Rf n W C t.1 t.2.1) ⟨rfl, h⟩ ?_
  rintro k ⟨sd', z, mv, i⟩ hk ⟨hi, h1⟩
  simp only at hi h1
  subst hi
  unfold dissect_refine_l69
  simp only
  by_cases hkn : k < n
  · have hsl := h1.sl
    obtain ⟨s, hs⟩ : ∃ s, sd'[k]? = some s := ⟨sd'[k]'(by omega), by simp [show k < sd'.length by omega]⟩
    have hs01 := h1.s01 s (mem_get hs)
    have hsd := sd_get hs
    have hw : wa .i64 (k : Int) 1 = ((k + 1 : Nat) : Int) := wa1 (by omega)
    have hz := h1.zl
    obtain ⟨y, hy⟩ : ∃ y, vx[k]? = some y := ⟨vx[k]'(by omega), by simp [show k < vx.length by omega]⟩
    have e1 : getI sd' (k : Int) = some s := hs
    have e2 : getI vx (k : Int) = some y := hy
    have e3 : getI (cadj n W) (k : Int) = some ((nbs n (W k)).map Int.ofNat) := cadj_get hkn
    have e5 : (k : Int) < (side0.length : Int) := by omega
    have e6 := gain_row hn hT hB hsl hkn
    rw [hsd] at e6
    have ho : ws .i64 1 s = 1 - s := by rw [ws_in (by constructor <;> omega)]
    obtain ⟨a, ha⟩ : ∃ a, z[(1 - s).toNat]? = some a := ⟨z[(1 - s).toNat]'(by omega), by simp [show (1 - s).toNat < z.length by omega]⟩
    obtain ⟨b, hb⟩ : ∃ b, z[s.toNat]? = some b := ⟨z[s.toNat]'(by omega), by simp [show s.toNat < z.length by omega]⟩
    have e7 : getI z (1 - s) = some a := getI_of (by omega) ha
    have e8 : getI z s = some b := getI_of (by omega) hb
    rw [if_pos e5, bindS e1, bindS e3, bindS e6, ho]
    have tail : ∀ (z' : List Int) (mv' : Bool) (sd'' : List Int), Rf n W C sd'' z' → Ret (dissect_refine_j76 (k : Int) sd'' z' mv') (VQ (fun t' : List Int × List Int × Bool × Int => k < n ∧ t'.2.2.2 = ((k + 1 : Nat) : Int) ∧ Rf n W C t'.1 t'.2.1) (fun o => Rf n W C o.1 o.2.1)) := by
      intro z' mv' sd'' hR
      unfold dissect_refine_j76
      rw [hw]
      simp only [ret_bind, ret_if, ret_get, ret_set, ret_app, ret_mkL, ret_sli, ret_wr, ret_wq, ret_some, vq_l, vq_r, Int.toNat_natCast, if_true, if_false, obs, decide_false, decide_true, Bool.false_eq_true, Bool.not_true, Bool.not_false, not_true_eq_false, not_false_eq_true, true_implies, false_implies, reduceCtorEq, true_and, and_true, false_and, or_false, false_or, implies_true]
      exact ⟨hkn, hR⟩
    by_cases hg : 0 < gn n W (sd sd') k
    · rw [if_pos hg, bindS e7, bindS e2]
      generalize decide (wm .i64 3 (wa .i64 a y) ≤ wm .i64 2 (wa .i64 x26 x27)) = d
      rw [bindS rfl]
      cases d with
      | true =>
        rw [if_pos rfl, bindS (st_ok _ (by omega) (by omega)), bindS e8, bindS e2, bindS (st_ok _ (by omega) (by omega))]
        have e9 : getI (z.set s.toNat (ws .i64 b y)) (1 - s) = some a := by
          refine getI_of (by omega) ?_
          rw [List.getElem?_set, if_neg (by omega)]
          exact ha
        rw [bindS e9, bindS e2, bindS (st_ok _ (by omega) (by simp; omega))]
        refine tail _ _ _ ⟨by simp [hsl], ?_, ?_, by simp [hz]⟩
        · intro x hx
          rcases List.mem_or_eq_of_mem_set hx with hx | rfl
          · exact h1.s01 x hx
          · omega
        · have e : cut n W (sd (sd'.set (k : Int).toNat (1 - s))) = cut n W (fun v => if v = k then 1 - sd sd' k else sd sd' v) := by
            unfold cut
            have q : ∀ v, sd (sd'.set (k : Int).toNat (1 - s)) v = if v = k then 1 - sd sd' k else sd sd' v := by
              intro v
              unfold sd
              rw [List.getElem?_set, hs, Int.toNat_natCast]
              by_cases hvk : k = v
              · rw [if_pos hvk, if_pos hvk.symm, if_pos (by omega)]; rfl
              · rw [if_neg hvk, if_neg (fun e => hvk e.symm)]
            simp only [q]
          rw [e, cut_flip hT (fun v hv => by
            obtain ⟨x, hx⟩ : ∃ x, sd'[v]? = some x := ⟨sd'[v]'(by omega), by simp [show v < sd'.length by omega]⟩
            rw [sd_get hx]; exact h1.s01 x (mem_get hx)) hkn]
          have := h1.le
          omega
      | false =>
        rw [if_neg (by simp)]
        exact tail _ _ _ h1
    · rw [if_neg hg, bindS rfl, if_neg (by simp)]
      exact tail _ _ _ h1
  · have e5 : ¬ (k : Int) < (side0.length : Int) := by omega
    rw [if_neg e5]
    simp only [ret_bind, ret_if, ret_get, ret_set, ret_app, ret_mkL, ret_sli, ret_wr, ret_wq, ret_some, vq_l, vq_r, Int.toNat_natCast, if_true, if_false, obs, decide_false, decide_true, Bool.false_eq_true, Bool.not_true, Bool.not_false, not_true_eq_false, not_false_eq_true, true_implies, false_implies, reduceCtorEq, true_and, and_true, false_and, or_false, false_or, implies_true]
    exact h1

theorem refine_ok {n : Nat} (hn : n ≤ 200) {W : Nat → Nat → Int} {B : Int} (hT : Tw n W B) (hB : 0 ≤ B ∧ B ≤ 1099511627776) {vx : List Int} (hv : vx.length = n) {side : List Int} (h0 : side.length = n) (h01 : S01 side) :
    Ret (dissect_refine (cadj n W) vx (ced n W) side) (fun o => o.length = n ∧ S01 o ∧ cut n W (sd o) ≤ cut n W (sd side)) := by
  unfold dissect_refine
  obtain ⟨z, z1, z2⟩ := size_ok hn h0 h01 hv
  obtain ⟨a, b, rfl⟩ : ∃ a b, z = [a, b] := by
    match z, z2 with
    | [a, b], _ => exact ⟨a, b, rfl⟩
  rw [bindS z1, bindS (show getI [a, b] 0 = some a by rfl), bindS (show getI [a, b] 1 = some b by rfl), ret_bind]
  refine ret_call (P := fun o => ∃ s z, (o = .inl s ∨ o = .inr s) ∧ Rf n W (cut n W (sd side)) s z) ?_ ?_
  · refine ret_loop 4 (fun k (t : List Int × List Int × Int) => t.2.2 = k ∧ Rf n W (cut n W (sd side)) t.1 t.2.1) ⟨rfl, h0, h01, Int.le_refl _, z2⟩ ?_
    rintro k ⟨s, z, i⟩ hk ⟨hi, h1⟩
    simp only at hi h1
    subst hi
    unfold dissect_refine_l52
    simp only
    by_cases hk4 : k < 4
    · have e5 : (k : Int) < 4 := by omega
      rw [if_pos e5]
      obtain ⟨⟨s', z', mv⟩, o1, o2⟩ := pass_ok hn hT hB hv h1.sl a b h1
      simp only at o2
      have hw : wa .i64 (k : Int) 1 = ((k + 1 : Nat) : Int) := wa1 (by omega)
      rw [bindS o1]
      simp only
      cases mv with
      | true =>
        rw [if_pos rfl, hw]
        simp only [ret_bind, ret_if, ret_get, ret_set, ret_app, ret_mkL, ret_sli, ret_wr, ret_wq, ret_some, vq_l, vq_r, Int.toNat_natCast, if_true, if_false, obs, decide_false, decide_true, Bool.false_eq_true, Bool.not_true, Bool.not_false, not_true_eq_false, not_false_eq_true, true_implies, false_implies, reduceCtorEq, true_and, and_true, false_and, or_false, false_or, implies_true]
        exact ⟨hk4, o2⟩
      | false =>
        rw [if_neg (by simp), ret_some]
        exact ⟨s', z', .inr rfl, o2⟩
    · have e5 : ¬ (k : Int) < 4 := by omega
      rw [if_neg e5, ret_some]
      exact ⟨s, z, .inl rfl, h1⟩
  · rintro o ⟨s, z, (rfl | rfl), h⟩
    · simp only [ret_bind, ret_if, ret_get, ret_set, ret_app, ret_mkL, ret_sli, ret_wr, ret_wq, ret_some, vq_l, vq_r, Int.toNat_natCast, if_true, if_false, obs, decide_false, decide_true, Bool.false_eq_true, Bool.not_true, Bool.not_false, not_true_eq_false, not_false_eq_true, true_implies, false_implies, reduceCtorEq, true_and, and_true, false_and, or_false, false_or, implies_true]; exact ⟨h.sl, h.s01, h.le⟩
    · simp only [ret_bind, ret_if, ret_get, ret_set, ret_app, ret_mkL, ret_sli, ret_wr, ret_wq, ret_some, vq_l, vq_r, Int.toNat_natCast, if_true, if_false, obs, decide_false, decide_true, Bool.false_eq_true, Bool.not_true, Bool.not_false, not_true_eq_false, not_false_eq_true, true_implies, false_implies, reduceCtorEq, true_and, and_true, false_and, or_false, false_or, implies_true]; exact ⟨h.sl, h.s01, h.le⟩
end Pd
