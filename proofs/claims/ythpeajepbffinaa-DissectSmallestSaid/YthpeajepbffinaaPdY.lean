/- DissectCoarse: coarsening keeps the weight and the cuts. -/
import Derived.Test.YthpeajepbffinaaPdZ
namespace Pd
open Pl Sx Go M Vc
set_option linter.unusedVariables false
set_option linter.unusedSimpArgs false
set_option maxHeartbeats 4000000

end Pd
/- Refining does not raise the cut. -/
namespace Pd
open Pl Sx Go M Vc
set_option linter.unusedVariables false
set_option linter.unusedSimpArgs false
set_option maxHeartbeats 4000000

theorem sm_iteR {n : Nat} {c : Prop} [Decidable c] {f : Nat → Int} : (sm n fun i => if c then f i else 0) = if c then sm n f else 0 := by
 by_cases h : c
 ·rw [if_pos h]; exact sm_congr fun i _ => if_pos h
 ·rw [if_neg h]; exact sm_zero fun i _ => if_neg h

/-- what moving x gains -/
def gn (n : Nat) (W : Nat → Nat → Int) (s : Nat → Int) (x : Nat) : Int := sm n fun u => if s u = s x then - W x u else W x u

theorem cut_flip {n : Nat} {W : Nat → Nat → Int} {B : Int} (hT : Tw n W B) {s : Nat → Int} (h01 : ∀ v, v < n → s v = 0 ∨ s v = 1) {x : Nat} (hx : x < n) :
  cut n W (fun v => if v = x then 1 - s x else s v) = cut n W s - gn n W s x := by
 have h1 := cut_twice hT s
 have h2 := cut_twice hT (fun v => if v = x then 1 - s x else s v)
 have key : (sm n fun v => sm n fun u => if (if u = x then 1 - s x else s u) = (if v = x then 1 - s x else s v) then 0 else W v u) + gn n W s x + gn n W s x = sm n fun v => sm n fun u => if s u = s v then 0 else W v u := by
  have a1 : gn n W s x = sm n fun v => sm n fun u => if x = v then (if s u = s x then - W x u else W x u) else 0 := by
   have : (sm n fun v => sm n fun u => if x = v then (if s u = s x then - W x u else W x u) else 0) = sm n fun v => if x = v then gn n W s x else 0 := sm_congr fun v _ => sm_iteR
   rw [this, sm_one hx]
  have a2 : gn n W s x = sm n fun v => sm n fun u => if x = u then (if s v = s x then - W x v else W x v) else 0 := by
   have : (sm n fun v => sm n fun u => if x = u then (if s v = s x then - W x v else W x v) else 0) = sm n fun v => (if s v = s x then - W x v else W x v) := sm_congr fun v _ => sm_one hx
   rw [this]; rfl
  have e : ∀ (a b c d : Int), b = c → b = d → a + c + d = a + b + b := by intros; omega
  rw [← e _ _ _ _ a1 a2, ← sm_add, ← sm_add]
  refine sm_congr fun v hv => ?_
  rw [← sm_add, ← sm_add]
  refine sm_congr fun u hu => ?_
  have hsx := h01 x hx
  have hsv := h01 v hv
  have hsu := h01 u hu
  by_cases hvx : x = v
  ·subst hvx
   by_cases hux : x = u
   ·subst hux
    have := hT.dg x hx
    simp [this]
   ·have hux' : ¬ u = x := fun e => hux e.symm
    rw [if_neg hux', if_pos rfl, if_pos rfl, if_neg hux]
    by_cases hs : s u = s x
    ·rw [if_pos hs, if_pos hs, if_neg (by omega)]; omega
    ·rw [if_neg hs, if_neg hs, if_pos (by omega)]; omega
  ·have hvx' : ¬ v = x := fun e => hvx e.symm
   rw [if_neg hvx', if_neg hvx]
   by_cases hux : x = u
   ·subst hux
    rw [if_pos rfl, if_pos rfl, hT.sym x v hx hv]
    by_cases hs : s v = s x
    ·rw [if_pos hs, if_neg (by omega), if_pos hs.symm]; omega
    ·rw [if_neg hs, if_pos (by omega), if_neg (fun e => hs e.symm)]; omega
   ·have hux' : ¬ u = x := fun e => hux e.symm
    rw [if_neg hux', if_neg hux]; omega
 omega

theorem gain_row {n : Nat} (hn : n ≤ 200) {W : Nat → Nat → Int} {B : Int} (hT : Tw n W B) (hB : 0 ≤ B ∧ B ≤ 1099511627776) {side : List Int} (hs : side.length = n) {v : Nat} (hv : v < n) :
  loop (dissect_refine_l72 ((nbs n (W v)).map Int.ofNat) side (sd side v) (ced n W) (v : Int)) (0, 0) = some (gn n W (sd side) v) := by
 have hnl := nbs_len (n := n) (f := W v)
 have hll : ((nbs n (W v)).map Int.ofNat).length = (nbs n (W v)).length := by simp
 have hget : ∀ u, u < n → side[u]? = some (sd side u) := by
  intro u hu
  obtain ⟨x, hx⟩ : ∃ x, side[u]? = some x := ⟨side[u]'(by omega), by simp [show u < side.length by omega]⟩
  rw [sd_get hx]; exact hx
 have hsum : gn n W (sd side) v = ((nbs n (W v)).map fun u => if sd side u = sd side v then - W v u else W v u).sum := by
  rw [nbs_sum]
  refine sm_congr fun u hu => ?_
  by_cases h : 0 < W v u
  ·rw [if_pos h]
  ·have := hT.nn v u hv hu
   rw [if_neg h]; split <;> omega
 rw [hsum]
 refine Ret.eq ?_
 refine ret_loop (nbs n (W v)).length (fun k (t : Int × Int) => t.2 = k ∧ t.1 = (((nbs n (W v)).take k).map fun u => if sd side u = sd side v then - W v u else W v u).sum ∧ -(k * B) ≤ (((nbs n (W v)).take k).map fun u => if sd side u = sd side v then - W v u else W v u).sum ∧ (((nbs n (W v)).take k).map fun u => if sd side u = sd side v then - W v u else W v u).sum ≤ k * B) ⟨rfl, by simp, by simp, by simp⟩ ?_
 rintro k ⟨t, i⟩ hk ⟨rfl, h1, h2, h3⟩
 simp only at h1
 subst h1
 unfold dissect_refine_l72 dissect_refine_j77
 by_cases hkl : k < (nbs n (W v)).length
 ·obtain ⟨u, hu⟩ : ∃ u, (nbs n (W v))[k]? = some u := ⟨(nbs n (W v))[k], by simp [hkl]⟩
  obtain ⟨hun, hpos⟩ := nbs_mem.1 (List.mem_of_getElem? hu)
  have hwr := hT.nn v u hv hun
  have e0 : getI ((nbs n (W v)).map Int.ofNat) (k : Int) = some (u : Int) := by rw [getI_cast, List.getElem?_map, hu]; rfl
  have e1 : getI side (u : Int) = some (sd side u) := hget u hun
  have e6 : getI (ced n W) (v : Int) = some ((nbs n (W v)).map (W v)) := ced_get hv
  have e7 : getI ((nbs n (W v)).map (W v)) (k : Int) = some (W v u) := by rw [getI_cast, List.getElem?_map, hu]; rfl
  have e5 : (k : Int) < (((nbs n (W v)).map Int.ofNat).length : Int) := by omega
  have hw : wa .i64 (k : Int) 1 = ((k + 1 : Nat) : Int) := wa1 (by omega)
  have gk : (k : Int) * B ≤ 200 * 1099511627776 := Int.le_trans (Int.mul_le_mul_of_nonneg_right (show (k : Int) ≤ 200 by omega) hB.1) (Int.mul_le_mul_of_nonneg_left hB.2 (by omega))
  have hk1 : ((k + 1 : Nat) : Int) * B = k * B + B := by rw [Int.natCast_add, Int.add_mul]; omega
  have hts : (((nbs n (W v)).take (k + 1)).map fun u => if sd side u = sd side v then - W v u else W v u).sum = (((nbs n (W v)).take k).map fun u => if sd side u = sd side v then - W v u else W v u).sum + (if sd side u = sd side v then - W v u else W v u) := by
   rw [tks hu, List.map_append, List.sum_append]; simp
  rw [hts, hk1]
  generalize (((nbs n (W v)).take k).map fun u => if sd side u = sd side v then - W v u else W v u).sum = S at *
  by_cases hsd : sd side u = sd side v
  ·have hw2 : ws .i64 S (W v u) = S + - W v u := by rw [ws_in (by constructor <;> omega)]; rfl
   simp only [ret_bind, ret_if, ret_get, ret_set, ret_app, ret_mkL, ret_sli, ret_wr, ret_wq, ret_some, vq_l, vq_r, Int.toNat_natCast, if_true, if_false, obs, decide_false, decide_true, Bool.false_eq_true, Bool.not_true, Bool.not_false, not_true_eq_false, not_false_eq_true, true_implies, false_implies, reduceCtorEq, true_and, and_true, false_and, or_false, false_or, implies_true, e0, e1, e5, e6, e7, hsd, hw2, hw]
   exact ⟨hkl, by omega, by omega⟩
  ·have hw2 : wa .i64 S (W v u) = S + W v u := wa_i (by omega) (by omega)
   simp only [ret_bind, ret_if, ret_get, ret_set, ret_app, ret_mkL, ret_sli, ret_wr, ret_wq, ret_some, vq_l, vq_r, Int.toNat_natCast, if_true, if_false, obs, decide_false, decide_true, Bool.false_eq_true, Bool.not_true, Bool.not_false, not_true_eq_false, not_false_eq_true, true_implies, false_implies, reduceCtorEq, true_and, and_true, false_and, or_false, false_or, implies_true, e0, e1, e5, e6, e7, hsd, hw2, hw]
   exact ⟨hkl, by omega, by omega⟩
 ·have e5 : ¬ (k : Int) < (((nbs n (W v)).map Int.ofNat).length : Int) := by omega
  rw [take_all (by omega)]
  simp only [ret_bind, ret_if, ret_get, ret_set, ret_app, ret_mkL, ret_sli, ret_wr, ret_wq, ret_some, vq_l, vq_r, Int.toNat_natCast, if_true, if_false, obs, decide_false, decide_true, Bool.false_eq_true, Bool.not_true, Bool.not_false, not_true_eq_false, not_false_eq_true, true_implies, false_implies, reduceCtorEq, true_and, and_true, false_and, or_false, false_or, implies_true, e5]

theorem st_ok {l : List Int} {x : Int} (y : Int) (hx : 0 ≤ x) (hl : x < l.length) : setI l x y = some (l.set x.toNat y) := by
 obtain ⟨k, rfl⟩ := Int.eq_ofNat_of_zero_le hx
 rw [setI_lt (by omega)]; rfl

theorem size_ok {n : Nat} (hn : n ≤ 200) {side vx : List Int} (hs : side.length = n) (h01 : S01 side) (hv : vx.length = n) : Ret (loop (dissect_refine_l1 side vx) ([0, 0], 0)) (fun o => o.length = 2) := by
 refine ret_loop n (fun k (t : List Int × Int) => t.2 = k ∧ t.1.length = 2) ⟨rfl, rfl⟩ ?_
 rintro k ⟨z, i⟩ hk ⟨rfl, h1⟩
 simp only at h1
 unfold dissect_refine_l1
 simp only
 by_cases hkn : k < n
 ·obtain ⟨x, hx⟩ : ∃ x, side[k]? = some x := ⟨side[k]'(by omega), by simp [show k < side.length by omega]⟩
  obtain ⟨y, hy⟩ : ∃ y, vx[k]? = some y := ⟨vx[k]'(by omega), by simp [show k < vx.length by omega]⟩
  have hw : wa .i64 (k : Int) 1 = ((k + 1 : Nat) : Int) := wa1 (by omega)
  have hx01 := h01 x (mem_get hx)
  obtain ⟨a, ha⟩ : ∃ a, z[x.toNat]? = some a := ⟨z[x.toNat]'(by omega), by simp [show x.toNat < z.length by omega]⟩
  have e1 : getI side (k : Int) = some x := hx
  have e2 : getI vx (k : Int) = some y := hy
  have e3 : getI z x = some a := getI_of (by omega) ha
  have e5 : (k : Int) < (side.length : Int) := by omega
  rw [if_pos e5, bindS e1, bindS e3, bindS e2, bindS (st_ok (x := x) (wa .i64 a y) (by omega) (by omega)), hw]
  simp only [ret_bind, ret_if, ret_get, ret_set, ret_app, ret_mkL, ret_sli, ret_wr, ret_wq, ret_some, vq_l, vq_r, Int.toNat_natCast, if_true, if_false, obs, decide_false, decide_true, Bool.false_eq_true, Bool.not_true, Bool.not_false, not_true_eq_false, not_false_eq_true, true_implies, false_implies, reduceCtorEq, true_and, and_true, false_and, or_false, false_or, implies_true]
  exact ⟨hkn, by simp [h1]⟩
 ·have e5 : ¬ (k : Int) < (side.length : Int) := by omega
  rw [if_neg e5]
  simp only [ret_bind, ret_if, ret_get, ret_set, ret_app, ret_mkL, ret_sli, ret_wr, ret_wq, ret_some, vq_l, vq_r, Int.toNat_natCast, if_true, if_false, obs, decide_false, decide_true, Bool.false_eq_true, Bool.not_true, Bool.not_false, not_true_eq_false, not_false_eq_true, true_implies, false_implies, reduceCtorEq, true_and, and_true, false_and, or_false, false_or, implies_true]
  exact h1

/-- what refining keeps -/
structure Rf (n : Nat) (W : Nat → Nat → Int) (C : Int) (side size : List Int) : Prop where
 sl : side.length = n
 s01 : S01 side
 le : cut n W (sd side) ≤ C
 zl : size.length = 2

theorem pass_ok {n : Nat} (hn : n ≤ 200) {W : Nat → Nat → Int} {B : Int} (hT : Tw n W B) (hB : 0 ≤ B ∧ B ≤ 1099511627776) {vx : List Int} (hv : vx.length = n) {C : Int} {side0 : List Int} (h0 : side0.length = n) (x26 x27 : Int) {side size : List Int} (h : Rf n W C side size) :
  Ret (loop (dissect_refine_l69 side0 (cadj n W) (ced n W) vx x26 x27) (side, size, false, 0)) (fun o => Rf n W C o.1 o.2.1) := by
 refine ret_loop n (fun k (t : List Int × List Int × Bool × Int) => t.2.2.2 = k ∧ Rf n W C t.1 t.2.1) ⟨rfl, h⟩ ?_
 rintro k ⟨sd', z, mv, i⟩ hk ⟨hi, h1⟩
 simp only at hi h1
 subst hi
 unfold dissect_refine_l69
 simp only
 by_cases hkn : k < n
 ·have hsl := h1.sl
  obtain ⟨s, hs⟩ : ∃ s, sd'[k]? = some s := ⟨sd'[k]'(by omega), by simp [show k < sd'.length by omega]⟩
  have hs01 := h1.s01 s (mem_get hs)
  have hsd := sd_get hs
  have hw : wa .i64 (k : Int) 1 = ((k + 1 : Nat) : Int) := wa1 (by omega)
  have hz := h1.zl
  obtain ⟨y, hy⟩ : ∃ y, vx[k]? = some y := ⟨vx[k]'(by omega), by simp [show k < vx.length by omega]⟩
  have e1 : getI sd' (k : Int) = some s := hs
  have e2 : getI vx (k : Int) = some y := hy
  have e3 : getI (cadj n W) (k : Int) = some ((nbs n (W k)).map Int.ofNat) := cadj_get hkn
  have e5 : (k : Int) < (side0.length : Int) := by omega
  have e6 := gain_row hn hT hB hsl hkn
  rw [hsd] at e6
  have ho : ws .i64 1 s = 1 - s := by rw [ws_in (by constructor <;> omega)]
  obtain ⟨a, ha⟩ : ∃ a, z[(1 - s).toNat]? = some a := ⟨z[(1 - s).toNat]'(by omega), by simp [show (1 - s).toNat < z.length by omega]⟩
  obtain ⟨b, hb⟩ : ∃ b, z[s.toNat]? = some b := ⟨z[s.toNat]'(by omega), by simp [show s.toNat < z.length by omega]⟩
  have e7 : getI z (1 - s) = some a := getI_of (by omega) ha
  have e8 : getI z s = some b := getI_of (by omega) hb
  rw [if_pos e5, bindS e1, bindS e3, bindS e6, ho]
  have tail : ∀ (z' : List Int) (mv' : Bool) (sd'' : List Int), Rf n W C sd'' z' → Ret (dissect_refine_j76 (k : Int) sd'' z' mv') (VQ (fun t' : List Int × List Int × Bool × Int => k < n ∧ t'.2.2.2 = ((k + 1 : Nat) : Int) ∧ Rf n W C t'.1 t'.2.1) (fun o => Rf n W C o.1 o.2.1)) := by
   intro z' mv' sd'' hR
   unfold dissect_refine_j76
   rw [hw]
   simp only [ret_bind, ret_if, ret_get, ret_set, ret_app, ret_mkL, ret_sli, ret_wr, ret_wq, ret_some, vq_l, vq_r, Int.toNat_natCast, if_true, if_false, obs, decide_false, decide_true, Bool.false_eq_true, Bool.not_true, Bool.not_false, not_true_eq_false, not_false_eq_true, true_implies, false_implies, reduceCtorEq, true_and, and_true, false_and, or_false, false_or, implies_true]
   exact ⟨hkn, hR⟩
  by_cases hg : 0 < gn n W (sd sd') k
  ·rw [if_pos hg, bindS e7, bindS e2]
   generalize decide (wm .i64 3 (wa .i64 a y) ≤ wm .i64 2 (wa .i64 x26 x27)) = d
   rw [bindS rfl]
   cases d with
   | true =>
    rw [if_pos rfl, bindS (st_ok _ (by omega) (by omega)), bindS e8, bindS e2, bindS (st_ok _ (by omega) (by omega))]
    have e9 : getI (z.set s.toNat (ws .i64 b y)) (1 - s) = some a := by
     refine getI_of (by omega) ?_
     rw [List.getElem?_set, if_neg (by omega)]
     exact ha
    rw [bindS e9, bindS e2, bindS (st_ok _ (by omega) (by simp; omega))]
    refine tail _ _ _ ⟨by simp [hsl], ?_, ?_, by simp [hz]⟩
    ·intro x hx
     rcases List.mem_or_eq_of_mem_set hx with hx | rfl
     ·exact h1.s01 x hx
     ·omega
    ·have e : cut n W (sd (sd'.set (k : Int).toNat (1 - s))) = cut n W (fun v => if v = k then 1 - sd sd' k else sd sd' v) := by
      unfold cut
      have q : ∀ v, sd (sd'.set (k : Int).toNat (1 - s)) v = if v = k then 1 - sd sd' k else sd sd' v := by
       intro v
       unfold sd
       rw [List.getElem?_set, hs, Int.toNat_natCast]
       by_cases hvk : k = v
       ·rw [if_pos hvk, if_pos hvk.symm, if_pos (by omega)]; rfl
       ·rw [if_neg hvk, if_neg (fun e => hvk e.symm)]
      simp only [q]
     rw [e, cut_flip hT (fun v hv => by
      obtain ⟨x, hx⟩ : ∃ x, sd'[v]? = some x := ⟨sd'[v]'(by omega), by simp [show v < sd'.length by omega]⟩
      rw [sd_get hx]; exact h1.s01 x (mem_get hx)) hkn]
     have := h1.le
     omega
   | false =>
    rw [if_neg (by simp)]
    exact tail _ _ _ h1
  ·rw [if_neg hg, bindS rfl, if_neg (by simp)]
   exact tail _ _ _ h1
 ·have e5 : ¬ (k : Int) < (side0.length : Int) := by omega
  rw [if_neg e5]
  simp only [ret_bind, ret_if, ret_get, ret_set, ret_app, ret_mkL, ret_sli, ret_wr, ret_wq, ret_some, vq_l, vq_r, Int.toNat_natCast, if_true, if_false, obs, decide_false, decide_true, Bool.false_eq_true, Bool.not_true, Bool.not_false, not_true_eq_false, not_false_eq_true, true_implies, false_implies, reduceCtorEq, true_and, and_true, false_and, or_false, false_or, implies_true]
  exact h1

theorem refine_ok {n : Nat} (hn : n ≤ 200) {W : Nat → Nat → Int} {B : Int} (hT : Tw n W B) (hB : 0 ≤ B ∧ B ≤ 1099511627776) {vx : List Int} (hv : vx.length = n) {side : List Int} (h0 : side.length = n) (h01 : S01 side) :
  Ret (dissect_refine (cadj n W) vx (ced n W) side) (fun o => o.length = n ∧ S01 o ∧ cut n W (sd o) ≤ cut n W (sd side)) := by
 unfold dissect_refine
 obtain ⟨z, z1, z2⟩ := size_ok hn h0 h01 hv
 obtain ⟨a, b, rfl⟩ : ∃ a b, z = [a, b] := by
  match z, z2 with
  | [a, b], _ => exact ⟨a, b, rfl⟩
 rw [bindS z1, bindS (show getI [a, b] 0 = some a by rfl), bindS (show getI [a, b] 1 = some b by rfl), ret_bind]
 refine ret_call (P := fun o => ∃ s z, (o = .inl s ∨ o = .inr s) ∧ Rf n W (cut n W (sd side)) s z) ?_ ?_
 ·refine ret_loop 4 (fun k (t : List Int × List Int × Int) => t.2.2 = k ∧ Rf n W (cut n W (sd side)) t.1 t.2.1) ⟨rfl, h0, h01, Int.le_refl _, z2⟩ ?_
  rintro k ⟨s, z, i⟩ hk ⟨hi, h1⟩
  simp only at hi h1
  subst hi
  unfold dissect_refine_l52
  simp only
  by_cases hk4 : k < 4
  ·have e5 : (k : Int) < 4 := by omega
   rw [if_pos e5]
   obtain ⟨⟨s', z', mv⟩, o1, o2⟩ := pass_ok hn hT hB hv h1.sl a b h1
   simp only at o2
   have hw : wa .i64 (k : Int) 1 = ((k + 1 : Nat) : Int) := wa1 (by omega)
   rw [bindS o1]
   simp only
   cases mv with
   | true =>
    rw [if_pos rfl, hw]
    simp only [ret_bind, ret_if, ret_get, ret_set, ret_app, ret_mkL, ret_sli, ret_wr, ret_wq, ret_some, vq_l, vq_r, Int.toNat_natCast, if_true, if_false, obs, decide_false, decide_true, Bool.false_eq_true, Bool.not_true, Bool.not_false, not_true_eq_false, not_false_eq_true, true_implies, false_implies, reduceCtorEq, true_and, and_true, false_and, or_false, false_or, implies_true]
    exact ⟨hk4, o2⟩
   | false =>
    rw [if_neg (by simp), ret_some]
    exact ⟨s', z', .inr rfl, o2⟩
  ·have e5 : ¬ (k : Int) < 4 := by omega
   rw [if_neg e5, ret_some]
   exact ⟨s, z, .inl rfl, h1⟩
 ·rintro o ⟨s, z, (rfl | rfl), h⟩
  ·simp only [ret_bind, ret_if, ret_get, ret_set, ret_app, ret_mkL, ret_sli, ret_wr, ret_wq, ret_some, vq_l, vq_r, Int.toNat_natCast, if_true, if_false, obs, decide_false, decide_true, Bool.false_eq_true, Bool.not_true, Bool.not_false, not_true_eq_false, not_false_eq_true, true_implies, false_implies, reduceCtorEq, true_and, and_true, false_and, or_false, false_or, implies_true]; exact ⟨h.sl, h.s01, h.le⟩
  ·simp only [ret_bind, ret_if, ret_get, ret_set, ret_app, ret_mkL, ret_sli, ret_wr, ret_wq, ret_some, vq_l, vq_r, Int.toNat_natCast, if_true, if_false, obs, decide_false, decide_true, Bool.false_eq_true, Bool.not_true, Bool.not_false, not_true_eq_false, not_false_eq_true, true_implies, false_implies, reduceCtorEq, true_and, and_true, false_and, or_false, false_or, implies_true]; exact ⟨h.sl, h.s01, h.le⟩
end Pd
/- Growing: the program's sides are the paper's. -/
namespace Pd
open Pl Sx Go M Vc
set_option linter.unusedVariables false
set_option linter.unusedSimpArgs false
set_option maxHeartbeats 4000000

/-- growing along a list -/
def grow (T : Int) (vx : List Int) : List Int → List Int × Int → (List Int × Int) ⊕ List Int
 | [], st => .inl st
 | v :: l, st => if T ≤ wm .i64 2 st.2 then .inr st.1 else grow T vx l (st.1.set v.toNat 0, wa .i64 st.2 (vx[v.toNat]?.getD 0))
def stp : (List Int × Int) ⊕ List Int → List Int
 | .inl p => p.1
 | .inr s => s
def out1 : List Int ⊕ List Int → List Int
 | .inl s => s
 | .inr s => s

theorem grow_keeps {T : Int} {vx : List Int} : ∀ {l : List Int} {st : List Int × Int}, S01 st.1 → (stp (grow T vx l st)).length = st.1.length ∧ S01 (stp (grow T vx l st))
 | [], st, h => ⟨rfl, h⟩
 | v :: l, st, h => by
  rw [grow]
  split
  ·exact ⟨rfl, h⟩
  ·have := grow_keeps (T := T) (vx := vx) (l := l) (st := (st.1.set v.toNat 0, wa .i64 st.2 (vx[v.toNat]?.getD 0))) (fun x hx => by
    rcases List.mem_or_eq_of_mem_set hx with hx | rfl
    ·exact h x hx
    ·exact .inl rfl)
   exact ⟨by simpa using this.1, this.2⟩
theorem drop_at {α : Type} {l : List α} {k : Nat} {x : α} (h : l[k]? = some x) : l.drop k = x :: l.drop (k + 1) := by
 have hk : k < l.length := by
  refine Classical.byContradiction fun hno => ?_
  rw [List.getElem?_eq_none (by omega)] at h; cases h
 rw [List.drop_eq_getElem_cons hk]
 rw [List.getElem?_eq_getElem hk] at h
 rw [Option.some.inj h]

theorem g4_ok {n : Nat} (hn : n ≤ 200) {vx : List Int} (hv : vx.length = n) (T : Int) {l : List Int} (hl : l.length ≤ 1000000) (hr : ∀ x, x ∈ l → 0 ≤ x ∧ x < n) {s : List Int} {g : Int} (hs : s.length = n) :
  loop (dissect_grown_l4 l T vx) (s, g, 0) = some (grow T vx l (s, g)) := by
 refine Ret.eq ?_
 refine ret_loop l.length (fun k (t : List Int × Int × Int) => t.2.2 = k ∧ t.1.length = n ∧ grow T vx l (s, g) = grow T vx (l.drop k) (t.1, t.2.1)) ⟨rfl, hs, rfl⟩ ?_
 rintro k ⟨a, b, i⟩ hk ⟨hi, h1, h2⟩
 simp only at hi h1 h2
 subst hi
 unfold dissect_grown_l4
 simp only
 by_cases hkl : k < l.length
 ·obtain ⟨x, hx⟩ : ∃ x, l[k]? = some x := ⟨l[k], by simp [hkl]⟩
  have hxr := hr x (mem_get hx)
  have e1 : getI l (k : Int) = some x := hx
  have hw : wa .i64 (k : Int) 1 = ((k + 1 : Nat) : Int) := wa1 (by omega)
  obtain ⟨y, hy⟩ : ∃ y, vx[x.toNat]? = some y := ⟨vx[x.toNat]'(by omega), by simp [show x.toNat < vx.length by omega]⟩
  have e2 : getI vx x = some y := getI_of hxr.1 hy
  rw [drop_at hx, grow, hy] at h2
  rw [if_pos (by omega), bindS e1]
  by_cases hT : T ≤ wm .i64 2 b
  ·rw [if_pos hT] at h2 ⊢
   rw [ret_some, vq_r, h2]
  ·rw [if_neg hT] at h2 ⊢
   rw [bindS (st_ok _ hxr.1 (by omega)), bindS e2, hw, ret_some, vq_l]
   exact ⟨hkl, rfl, by simp [h1], h2⟩
 ·rw [if_neg (by omega), ret_some, vq_r]
  rw [List.drop_eq_nil_of_le (by omega)] at h2
  rw [h2]; rfl

theorem concat_ok {L : List (List Int)} (hL : L.length ≤ 1000) (hl : ∀ l, l ∈ L → l.length ≤ 1000) : slices_Concat_int L = some L.flatten := by
 unfold slices_Concat_int
 have fl : ∀ k, k ≤ L.length → (L.take k).flatten.length ≤ k * 1000 := by
  intro k hk
  induction k with
  | zero => simp
  | succ k ih =>
   obtain ⟨x, hx⟩ : ∃ x, L[k]? = some x := ⟨L[k], by simp [show k < L.length by omega]⟩
   have e : (L.take (k + 1)).flatten.length = (L.take k).flatten.length + x.length := by
    rw [tks hx, List.flatten_append, List.length_append, List.flatten_singleton]
   have := ih (by omega)
   have := hl x (mem_get hx)
   omega
 have h1 : loop (slices_Concat_int_l3 L) (0, 0) = some (L.flatten.length : Int) := by
  refine Ret.eq ?_
  refine ret_loop L.length (fun k (t : Int × Int) => t = (((L.take k).flatten.length : Int), (k : Int))) rfl ?_
  rintro k _ hk rfl
  unfold slices_Concat_int_l3 slices_Concat_int_j5
  simp only
  have hf := fl k hk
  by_cases hkl : k < L.length
  ·obtain ⟨x, hx⟩ : ∃ x, L[k]? = some x := ⟨L[k], by simp [hkl]⟩
   have hw : wa .i64 (k : Int) 1 = ((k + 1 : Nat) : Int) := wa1 (by omega)
   have hxl := hl x (mem_get hx)
   have e1 : getI L (k : Int) = some x := hx
   have hw2 : wa .i64 ((L.take k).flatten.length : Int) (x.length : Int) = (((L.take (k + 1)).flatten.length : Nat) : Int) := by
    rw [wa_in (by constructor <;> omega), tks hx, List.flatten_append, List.length_append, List.flatten_singleton]
    omega
   rw [if_pos (by omega), bindS e1, hw2, if_neg (by omega), hw, ret_some, vq_l]
   exact ⟨hkl, rfl⟩
  ·rw [if_neg (by omega), ret_some, vq_r, take_all (by omega)]
 have hF := fl L.length (Nat.le_refl _)
 rw [List.take_length] at hF
 have h2 : slices_Grow_int (L.flatten.length : Int) = some [] := by
  unfold slices_Grow_int slices_Grow_int_j1 slices_Grow_int_j2
  rw [if_neg (by omega)]
  have e0 : ws .i64 0 0 = 0 := by rw [ws_in (by constructor <;> omega)]; rfl
  have e1 : ws .i64 (L.flatten.length : Int) 0 = (L.flatten.length : Int) := by rw [ws_in (by constructor <;> omega)]; omega
  rw [e0, e1]
  by_cases h : (0 : Int) < (L.flatten.length : Int)
  ·rw [if_pos h]
   unfold mkLp
   rw [if_pos h, bindS (mkL_nat 0 _ (by omega))]
   rfl
  ·rw [if_neg h]
 have h3 : loop (slices_Concat_int_l4 L) ([], 0) = some L.flatten := by
  refine Ret.eq ?_
  refine ret_loop L.length (fun k (t : List Int × Int) => t = ((L.take k).flatten, (k : Int))) rfl ?_
  rintro k _ hk rfl
  unfold slices_Concat_int_l4
  simp only
  have hf := fl k hk
  by_cases hkl : k < L.length
  ·obtain ⟨x, hx⟩ : ∃ x, L[k]? = some x := ⟨L[k], by simp [hkl]⟩
   have hw : wa .i64 (k : Int) 1 = ((k + 1 : Nat) : Int) := wa1 (by omega)
   have hxl := hl x (mem_get hx)
   have e1 : getI L (k : Int) = some x := hx
   have e2 : app (L.take k).flatten x = some (L.take (k + 1)).flatten := by
    unfold app BIG
    rw [if_pos (by omega), tks hx, List.flatten_append]; simp
   rw [if_pos (by omega), bindS e1, bindS e2, hw, ret_some, vq_l]
   exact ⟨hkl, rfl⟩
  ·rw [if_neg (by omega), ret_some, vq_r, take_all (by omega)]
 rw [bindS h1, bindS h2, bindS h3]

end Pd
/- DissectRefined: with few vertices the bisection is the grown one, refined. -/
namespace Pd
open Pl Sx Go M Vc
set_option linter.unusedVariables false
set_option linter.unusedSimpArgs false
set_option maxHeartbeats 4000000

end Pd
/- The paper's check, matching and coarsening. -/
namespace Pd
open Pl Sx Go M Vc
set_option linter.unusedVariables false
set_option linter.unusedSimpArgs false
set_option maxHeartbeats 4000000

/-! ### the check -/
/-! ### matching -/
end Pd
/- The paper's coarsening. -/
namespace Pd
open Pl Sx Go M Vc
set_option linter.unusedVariables false
set_option linter.unusedSimpArgs false
set_option maxHeartbeats 4000000

end Pd
/- The paper's refining. -/
namespace Pd
open Pl Sx Go M Vc
set_option linter.unusedVariables false
set_option linter.unusedSimpArgs false
set_option maxHeartbeats 4000000

structure Vw (n : Nat) (vx : List Int) : Prop where
 len : vx.length = n
 wg : ∀ x, x ∈ vx → Wg x
theorem Vw.get {n : Nat} {vx : List Int} (h : Vw n vx) {v : Nat} (hv : v < n) : vx[v]? = some (vw vx v) ∧ 1 ≤ vw vx v ∧ vw vx v ≤ 1099511627776 := by
 have hl := h.len
 obtain ⟨x, hx⟩ : ∃ x, vx[v]? = some x := ⟨vx[v]'(by omega), by simp [show v < vx.length by omega]⟩
 have := h.wg x (mem_get hx)
 rw [vw_get hx]
 exact ⟨hx, this.1, this.2⟩
theorem sd_at {n : Nat} {side : List Int} (hs : side.length = n) {v : Nat} (hv : v < n) : side[v]? = some (sd side v) := by
 obtain ⟨x, hx⟩ : ∃ x, side[v]? = some x := ⟨side[v]'(by omega), by simp [show v < side.length by omega]⟩
 rw [sd_get hx]; exact hx
theorem sd01 {n : Nat} {side : List Int} (hs : side.length = n) (h01 : S01 side) : ∀ v, v < n → sd side v = 0 ∨ sd side v = 1 := fun v hv => h01 _ (mem_get (sd_at hs hv))
end Pd
/- The bisection is the paper's; DissectMade. -/
namespace Pd
open Pl Sx Go M Vc
set_option linter.unusedVariables false
set_option linter.unusedSimpArgs false
set_option maxHeartbeats 4000000

/-- the weight of all edges, twice -/
def et (n : Nat) (W : Nat → Nat → Int) : Int := sm n fun v => sm n fun u => W v u

theorem tab_sum {n K : Nat} {W : Nat → Nat → Int} {to : List Int} (hto : ∀ u, u < n → tt to u < K) : (sm K fun a => sm K fun b => tabS n W to n a b) = et n W := by
 have q0 : (sm K fun a => sm K fun b => tabS n W to n a b) = sm K fun a => sm n fun v => sm K fun b => sm n fun u => if tt to v = a ∧ tt to u = b then W v u else 0 := sm_congr fun a _ => sm_swap
 rw [q0, sm_swap]
 unfold et
 refine sm_congr fun v hv => ?_
 have q1 : (sm K fun a => sm K fun b => sm n fun u => if tt to v = a ∧ tt to u = b then W v u else 0) = sm K fun a => sm n fun u => sm K fun b => if tt to v = a ∧ tt to u = b then W v u else 0 := sm_congr fun a _ => sm_swap
 rw [q1, sm_swap]
 refine sm_congr fun u hu => ?_
 have q2 : (sm K fun a => sm K fun b => if tt to v = a ∧ tt to u = b then W v u else 0) = sm K fun a => if tt to v = a then W v u else 0 := by
  refine sm_congr fun a _ => ?_
  rw [← sm_one (n := K) (a := tt to u) (x := if tt to v = a then W v u else 0) (hto u hu)]
  refine sm_congr fun b _ => ?_
  by_cases h1 : tt to v = a
  ·by_cases h2 : tt to u = b
   ·rw [if_pos ⟨h1, h2⟩, if_pos h2, if_pos h1]
   ·rw [if_neg (fun e => h2 e.2), if_neg h2]
  ·rw [if_neg (fun e => h1 e.1), if_neg h1]
   split <;> rfl
 rw [q2, sm_one (hto v hv)]

theorem fuel_succ' : ∃ k, FUEL = k + 1000 := ⟨1099511626776, rfl⟩
theorem bisect_succ' (k : Nat) : dissect_bisect (k + 1) = dissect_bisect_body (dissect_bisect k) := rfl
/-- the sides of the vertices, from those of the coarse ones -/
def fineL (n : Nat) (to cs : List Int) : List Int := (List.range n).map fun v => sd cs (tt to v)
theorem fineL_len {n : Nat} {to cs : List Int} : (fineL n to cs).length = n := by simp [fineL]
theorem fineL_01 {n K : Nat} {to cs : List Int} (hto : ∀ u, u < n → tt to u < K) (hc : cs.length = K) (h : S01 cs) : S01 (fineL n to cs) := by
 intro x hx
 unfold fineL at hx
 rw [List.mem_map] at hx
 obtain ⟨v, hv, rfl⟩ := hx
 exact sd01 hc h _ (hto v (List.mem_range.1 hv))

theorem fine1 {r76 : (List (List Int)) × (List Int) × (List (List Int)) × (List Int) × Bool} {r115 : (List Int) × Bool} {n K : Nat} (hn : n ≤ 200) {to cs : List Int} (h1 : r76.2.2.2.1 = to) (h2 : r115.1 = cs) (htl : to.length = n) (hto : ∀ v, v < n → ∃ a : Nat, to[v]? = some (a : Int) ∧ a < K) (hc : cs.length = K) {s0 : List Int} (h0 : s0.length = n) :
  loop (dissect_bisect_l9 r76 r115) (s0, 0) = some (fineL n to cs) := by
 subst h1
 subst h2
 refine Ret.eq ?_
 refine ret_loop n (fun k (t : List Int × Int) => t.2 = k ∧ t.1.length = n ∧ ∀ v, v < k → t.1[v]? = some (sd r115.1 (tt r76.2.2.2.1 v))) ⟨rfl, h0, fun v hv => by omega⟩ ?_
 rintro k ⟨a, i⟩ hk ⟨hi, g1, g2⟩
 simp only at hi g1 g2
 subst hi
 unfold dissect_bisect_l9
 simp only
 by_cases hkn : k < n
 ·obtain ⟨b, b1, b2⟩ := hto k hkn
  have hw : wa .i64 (k : Int) 1 = ((k + 1 : Nat) : Int) := wa1 (by omega)
  have e1 : getI r76.2.2.2.1 (k : Int) = some (b : Int) := b1
  have e2 : getI r115.1 (b : Int) = some (sd r115.1 b) := sd_at hc b2
  rw [if_pos (by omega), bindS e1, bindS e2, bindS (setI_lt (by omega)), hw, ret_some, vq_l]
  refine ⟨hkn, rfl, by simp [g1], fun v hv => ?_⟩
  rw [List.getElem?_set]
  by_cases hkv : k = v
  ·subst hkv
   rw [if_pos rfl, if_pos (by omega), tt_get b1, Int.toNat_natCast]
  ·rw [if_neg hkv, g2 v (by omega)]
 ·rw [if_neg (by omega), ret_some, vq_r]
  apply List.ext_getElem?
  intro v
  by_cases hv : v < n
  ·rw [g2 v (by omega)]; simp [fineL, hv]
  ·rw [List.getElem?_eq_none (by omega), List.getElem?_eq_none (by rw [fineL_len]; omega)]

end Pd
/- The bisection of any moderate graph, and of a graph whose weights are all 1: program only. -/
namespace Pd
open Pl Sx Go M Vc
set_option linter.unusedVariables false
set_option linter.unusedSimpArgs false
set_option maxHeartbeats 4000000

def ql (adj : List (List Int)) (c : List Int) : List (List Int) := ((graph_Peripheral adj (c.headD 0)).bind (graph_Levels adj)).getD []
structure PartP (adj : List (List Int)) (n : Nat) (c : List Int) : Prop where
 ex : ∃ (r : Int) (p : Int), getI c 0 = some r ∧ graph_Peripheral adj r = some p ∧ graph_Levels adj p = some (ql adj c)
 ln : (ql adj c).length ≤ 1000
 sz : ∀ l, l ∈ ql adj c → l.length ≤ 1000
 rg : ∀ l, l ∈ ql adj c → ∀ x, x ∈ l → 0 ≤ x ∧ x < n

theorem partP_ok {adj : List (List Int)} (hG : Gr adj) (hn : adj.length ≤ 30) {out : List (List Int)} (hC : CS adj adj.length out) {c : List Int} (hc : c ∈ out) : PartP adj adj.length c := by
 obtain ⟨r, hr, hcc, hh⟩ := hC.cls c hc
 obtain ⟨a, lev, seen, c', a1, a2, a3, a4⟩ := levels_cls hG hn hr
 obtain ⟨p, p0, q, b, r', w, rfl, hq, _⟩ := peripheral_ok hG hn hr a1
 obtain ⟨o, lev', seen', c'', o1, o2, o3, o4⟩ := levels_cls hG hn hq
 obtain ⟨k1, k2, k3, k4, k5⟩ := bf_pre o2 hq hn
 have hL : graph_Levels adj (q : Int) = some o := by
  unfold graph_Levels graph_vertex
  have hchk := graphCheck_ok hG (show adj.length ≤ 200 by omega)
  have e2 : (q : Int) < (adj.length : Int) := by omega
  have e3 : (0 : Int) ≤ (q : Int) := by omega
  simp [hchk, e2, e3, o1]
 have hp : ql adj c = o := by
  unfold ql
  rw [List.headD_eq_head?_getD, hh, Option.getD_some, p0, Option.bind_some, hL, Option.getD_some]
 have hg : getI c 0 = some (r : Int) := by
  cases c with
  | nil => cases hh
  | cons x c => simp at hh; subst hh; rfl
 exact ⟨⟨r, q, hg, p0, by rw [hp]; exact hL⟩, by rw [hp]; omega, by rw [hp]; exact k5, by rw [hp]; exact k4⟩

theorem flatP_len {L : List (List Int)} : ∀ {a : Nat}, L.length ≤ a → (∀ l, l ∈ L → l.length ≤ 1000) → L.flatten.length ≤ a * 1000 := by
 induction L with
 | nil => intros; simp
 | cons x L ih =>
  intro a ha hl
  have h1 := hl x (by simp)
  have h2 := ih (a := a - 1) (by simp at ha; omega) (fun l h => hl l (by simp [h]))
  rw [List.flatten_cons, List.length_append]
  simp at ha
  omega

theorem g3P_ok {n : Nat} (hn : n ≤ 200) {vx : List Int} (hv : vx.length = n) (T : Int) {adj : List (List Int)} {C : List (List Int)} (hC : C.length ≤ 1000) (hP : ∀ c, c ∈ C → PartP adj n c) {s : List Int} {g : Int} (hs : s.length = n) (h01 : S01 s) :
  Ret (loop (dissect_grown_l3 C adj T vx) (s, g, 0)) (fun o => (out1 o).length = n ∧ S01 (out1 o)) := by
 refine ret_loop C.length (fun k (t : List Int × Int × Int) => t.2.2 = k ∧ t.1.length = n ∧ S01 t.1) ⟨rfl, hs, h01⟩ ?_
 rintro k ⟨a, b, i⟩ hk ⟨hi, h1, h2⟩
 simp only at hi h1 h2
 subst hi
 unfold dissect_grown_l3
 simp only
 by_cases hkl : k < C.length
 ·obtain ⟨c, hx⟩ : ∃ x, C[k]? = some x := ⟨C[k], by simp [hkl]⟩
  have hw : wa .i64 (k : Int) 1 = ((k + 1 : Nat) : Int) := wa1 (by omega)
  obtain ⟨⟨r, p, c1, c2, c4⟩, q1, q2, q3⟩ := hP c (mem_get hx)
  have e0 : getI C (k : Int) = some c := hx
  have e1 := g4_ok hn hv T (l := (ql adj c).flatten) (by have := flatP_len q1 q2; omega) (fun x hx => by obtain ⟨l, l1, l2⟩ := List.mem_flatten.1 hx; exact q3 l l1 x l2) (s := a) (g := b) h1
  have hkp := grow_keeps (T := T) (vx := vx) (l := (ql adj c).flatten) (st := (a, b)) h2
  rw [if_pos (by omega), bindS e0, bindS c1, bindS c2, bindS c4, bindS (concat_ok q1 q2), bindS e1]
  cases hg : grow T vx (ql adj c).flatten (a, b) with
  | inl p =>
   rw [hg] at hkp
   simp only [stp] at hkp
   simp only
   rw [hw, ret_some, vq_l]
   exact ⟨hkl, rfl, by rw [hkp.1, h1], hkp.2⟩
  | inr s' =>
   rw [hg] at hkp
   simp only [stp] at hkp
   simp only
   rw [ret_some, vq_r]
   exact ⟨by simp only [out1]; rw [hkp.1, h1], hkp.2⟩
 ·rw [if_neg (by omega), ret_some, vq_r]
  exact ⟨h1, h2⟩

theorem total_some {vx : List Int} (hl : vx.length ≤ 1000) : Ret (dissect_total vx) (fun _ => True) := by
 unfold dissect_total
 rw [ret_bind]
 simp only [ret_some]
 refine ret_loop vx.length (fun k (t : Int × Int) => t.2 = k) rfl ?_
 rintro k ⟨a, b⟩ hk hb
 simp only at hb
 subst hb
 unfold dissect_total_l1
 simp only
 by_cases hkn : k < vx.length
 ·have hw : wa .i64 (k : Int) 1 = ((k + 1 : Nat) : Int) := wa1 (by omega)
  rw [if_pos (by omega), bindS (getI_lt hkn), hw, ret_some, vq_l]
  exact ⟨hkn, rfl⟩
 ·rw [if_neg (by omega), ret_some, vq_r]
  trivial

theorem grownP_ok {adj : List (List Int)} {vx : List Int} {ed : List (List Int)} (h : Wt adj vx ed) (hn : adj.length ≤ 30) : ∃ s, dissect_grown adj vx ed = some s ∧ s.length = adj.length ∧ S01 s := by
 have hG := h.gr
 have hvl := h.vl
 obtain ⟨C, c1, c2⟩ := components_ok hG hn
 have hcl := c2.len
 have hP : ∀ c, c ∈ C → PartP adj adj.length c := fun c hc => partP_ok hG hn c2 hc
 obtain ⟨T, tot, _⟩ := total_some (vx := vx) (by omega)
 have hone : S01 (List.replicate adj.length 1) := fun x hx => .inr (List.eq_of_mem_replicate hx)
 obtain ⟨o, o1, o2, o3⟩ := g3P_ok (by omega) hvl T (by omega) hP (s := List.replicate adj.length 1) (g := 0) (by simp) hone
 refine ⟨_, ?_, o2, o3⟩
 unfold dissect_grown
 rw [hvl, bindS (repeat_ok (by omega) 1), bindS tot, bindS c1, bindS o1]
 cases o <;> rfl

structure CgP (n : Nat) (W : Nat → Nat → Int) (vx m vs to : List Int) : Prop where
 kn : vs.length ≤ n
 tl : to.length = n
 tr : ∀ v, v < n → ∃ a : Nat, to[v]? = some (a : Int) ∧ a < vs.length
 tw : Tw vs.length (cw (tabS n W to n)) 1099511627776
 vg : ∀ x, x ∈ vs → Wg x
 ee : et vs.length (cw (tabS n W to n)) ≤ 1099511627776
 ws : sm vs.length (vw vs) ≤ 1099511627776
 p : dissect_coarsen (cadj n W) vx (ced n W) m = some (cadj vs.length (cw (tabS n W to n)), vs, ced vs.length (cw (tabS n W to n)), to, true)

theorem coarse_modP {n : Nat} (hn : n ≤ 200) {W : Nat → Nat → Int} (hT : Tw n W 1099511627776) {vx m : List Int} (hvl : vx.length = n) (hvg : ∀ x, x ∈ vx → Wg x) (hE : et n W ≤ 1099511627776) (hS : sm n (vw vx) ≤ 1099511627776) (hM : Ml n m) : ∃ vs to, CgP n W vx m vs to := by
 obtain ⟨vs, to, hC, k1⟩ := coarsen_ok hn hT (by omega) hvl hvg hM
 have hg := hC.mg
 have htt : ∀ u, u < n → tt to u < vs.length := by
  intro u hu
  obtain ⟨a, a1, a2⟩ := hg.tr u hu
  rw [tt_get a1]
  omega
 have hts := tab_sum (W := W) htt
 have htn : ∀ a b, 0 ≤ tabS n W to n a b := fun a b => (hC.tb a b).1
 have hte : ∀ a b, a < vs.length → b < vs.length → tabS n W to n a b ≤ 1099511627776 := by
  intro a b ha hb
  have h1 := sm_pos (n := vs.length) (f := fun b => tabS n W to n a b) (fun b _ => htn a b) hb
  have h2 := sm_pos (n := vs.length) (f := fun a => sm vs.length fun b => tabS n W to n a b) (fun a _ => sm_nonneg fun b _ => htn a b) ha
  omega
 have hcw : ∀ a b, 0 ≤ cw (tabS n W to n) a b ∧ cw (tabS n W to n) a b ≤ tabS n W to n a b := by
  intro a b
  have := htn a b
  unfold cw
  split <;> omega
 have hvw : ∀ v, v < n → 1 ≤ vw vx v := by
  intro v hvn
  obtain ⟨x, hx⟩ : ∃ x, vx[v]? = some x := ⟨vx[v]'(by omega), by simp [show v < vx.length by omega]⟩
  rw [vw_get hx]
  exact (hvg x (mem_get hx)).1
 have hpos : ∀ x, x ∈ vs → 1 ≤ x := by
  intro x hx
  obtain ⟨a, ha, rfl⟩ := List.getElem_of_mem hx
  have h1 := hg.ws a ha
  rw [List.getElem?_eq_getElem ha] at h1
  rw [Option.some.inj h1]
  obtain ⟨v, v1, v2⟩ := hg.sj a ha
  have nn : ∀ i, i < n → 0 ≤ (if tt to i = a then vw vx i else 0) := by
   intro i hi
   have := hvw i hi
   split <;> omega
  have p1 := sm_pos nn v1
  simp only [if_pos v2] at p1
  have := hvw v v1
  omega
 have hws : sm vs.length (vw vs) = sm n (vw vx) := by
  have t1 : sm vs.length (vw vs) = sm vs.length fun a => sm n fun v => if tt to v = a then vw vx v else 0 := sm_congr fun a ha => vw_get (hg.ws a ha)
  rw [t1, sm_swap]
  exact sm_congr fun v hv => sm_one (htt v hv)
 have hvs : ∀ x, x ∈ vs → Wg x := by
  intro x hx
  refine ⟨hpos x hx, ?_⟩
  obtain ⟨a, ha, rfl⟩ := List.getElem_of_mem hx
  have hva : ∀ i, i < vs.length → 0 ≤ vw vs i := by
   intro i hi
   rw [vw_get (List.getElem?_eq_getElem hi)]
   have := hpos _ (List.getElem_mem hi)
   omega
  have := sm_pos hva ha
  rw [vw_get (List.getElem?_eq_getElem ha)] at this
  omega
 have hOk : OkE vs.length (cw (tabS n W to n)) := fun a b ha hb => Int.le_trans (hcw a b).2 (hte a b ha hb)
 have hee : et vs.length (cw (tabS n W to n)) ≤ 1099511627776 := by
  have : et vs.length (cw (tabS n W to n)) ≤ sm vs.length fun a => sm vs.length fun b => tabS n W to n a b := sm_le fun a _ => sm_le fun b _ => (hcw a b).2
  omega
 rw [if_pos ⟨hOk, hvs⟩] at k1
 exact ⟨vs, to, hg.vl, hg.tl, hg.tr, cw_tw hT (fun a b ha hb => ⟨htn a b, hOk a b ha hb⟩) (by omega), hvs, hee, by omega, k1⟩

theorem bisectP_ok : ∀ (n : Nat), n ≤ 30 → ∀ {W : Nat → Nat → Int} (_ : Tw n W 1099511627776) {vx : List Int} (_ : vx.length = n) (_ : ∀ x, x ∈ vx → Wg x) (_ : et n W ≤ 1099511627776) (_ : sm n (vw vx) ≤ 1099511627776) (k : Nat), n < k →
  ∃ o, dissect_bisect k (cadj n W) vx (ced n W) = some (o, true) ∧ o.length = n ∧ S01 o := by
 intro n
 induction n using Nat.strongRecOn with
 | ind n ih =>
 intro hn W hT vx hvl hvg hE hS k hk
 obtain ⟨j, rfl⟩ : ∃ j, k = j + 1 := ⟨k - 1, by omega⟩
 have hW := canon_wt hT hvl hvg
 have hcl : (cadj n W).length = n := cadj_len
 obtain ⟨s, g1, g3, g4⟩ := grownP_ok hW (by omega)
 rw [hcl] at g3
 obtain ⟨m, m1, hM⟩ := match_ok hW (by omega)
 obtain ⟨o, r1, r2, r3, r4⟩ := refine_ok (by omega) hT (by omega) hvl g3 g4
 rw [bisect_succ']
 unfold dissect_bisect_body dissect_bisect_j8 dissect_bisect_j5
 rw [bindS g1]
 by_cases h8 : n ≤ 8
 ·refine ⟨o, ?_, r2, r3⟩
  rw [if_neg (by omega), bindS r1]
 ·obtain ⟨vs, to, hc⟩ := coarse_modP (by omega) hT hvl hvg hE hS (hM.ml cadj_len)
  have hkn := hc.kn
  by_cases hlt : vs.length < n
  ·obtain ⟨cs, c1, c3, c4⟩ := ih vs.length hlt (by omega) hc.tw rfl hc.vg hc.ee hc.ws j (by omega)
   have htt : ∀ u, u < n → tt to u < vs.length := by
    intro u hu
    obtain ⟨a, a1, a2⟩ := hc.tr u hu
    rw [tt_get a1]
    omega
   have f01 := fineL_01 htt c3 c4
   obtain ⟨o, p1, p2, p3, p4⟩ := refine_ok (by omega) hT (by omega) hvl (fineL_len (n := n) (to := to) (cs := cs)) f01
   refine ⟨o, ?_, p2, p3⟩
   rw [if_pos (by omega), bindS m1, bindS hc.p]
   simp only [if_true]
   rw [if_pos (by omega), bindS c1]
   simp only [if_true]
   rw [bindS (fine1 (by omega) rfl rfl hc.tl hc.tr c3 g3), bindS p1]
  ·refine ⟨o, ?_, r2, r3⟩
   rw [if_pos (by omega), bindS m1, bindS hc.p]
   simp only [if_true]
   rw [if_neg (by omega), bindS r1]
end Pd
/- The graph whose weights are all 1. -/
namespace Pd
open Pl Sx Go M Vc
set_option linter.unusedVariables false
set_option linter.unusedSimpArgs false
set_option maxHeartbeats 4000000

def onesE (adj : List (List Int)) : List (List Int) := adj.map fun l => List.replicate l.length 1
theorem ones_get {adj : List (List Int)} {v : Nat} {l : List Int} (h : adj[v]? = some l) : (onesE adj)[v]? = some (List.replicate l.length 1) := by
 simp [onesE, h]
theorem ones_wt {adj : List (List Int)} (hG : Gr adj) : Wt adj (List.replicate adj.length 1) (onesE adj) := by
 refine ⟨hG, by simp, by simp [onesE], fun x hx => ?_, fun v l e h1 h2 => ?_, fun e he x hx => ?_, fun v k l e u x h1 h2 h3 h4 => ?_⟩
 ·rw [List.eq_of_mem_replicate hx]; constructor <;> omega
 ·rw [ones_get h1] at h2; cases h2; simp
 ·simp only [onesE, List.mem_map] at he
  obtain ⟨l, _, rfl⟩ := he
  rw [List.eq_of_mem_replicate hx]; constructor <;> omega
 ·rw [ones_get h1] at h2; cases h2
  have hx : x = 1 := List.eq_of_mem_replicate (mem_get h4)
  subst hx
  obtain ⟨m, m1, m2⟩ := hG.sym v l u h1 (mem_get h3)
  obtain ⟨k', k1⟩ := List.mem_iff_getElem?.1 m2
  refine ⟨m, _, k', m1, ones_get m1, k1, ?_⟩
  have := (List.getElem?_eq_some_iff.1 k1).1
  simp [this]
theorem units_ok {adj : List (List Int)} (hG : Gr adj) (hn : adj.length ≤ 200) : dissect_units adj = some (adj, List.replicate adj.length 1, onesE adj) := by
 unfold dissect_units
 have h1 : loop (dissect_units_l2 adj) ([], 0) = some (onesE adj) := by
  refine Ret.eq ?_
  refine ret_loop adj.length (fun k (t : List (List Int) × Int) => t = ((adj.take k).map (fun l => List.replicate l.length 1), (k : Int))) (by simp) ?_
  rintro k _ hk rfl
  unfold dissect_units_l2
  simp only
  by_cases hkn : k < adj.length
  ·have hw : wa .i64 (k : Int) 1 = ((k + 1 : Nat) : Int) := wa1 (by omega)
   have hl := hG.len (List.getElem?_eq_getElem hkn)
   rw [if_pos (by omega), bindS (getI_lt hkn), bindS (repeat_ok (by omega) 1), bindS (app_small (by simp; omega)), hw, ret_some, vq_l]
   refine ⟨hkn, ?_⟩
   rw [take_succ' hkn, List.map_append]
   rfl
  ·rw [if_neg (by omega), ret_some, vq_r, take_all (by omega)]
   rfl
 rw [bindS (repeat_ok (by omega) 1), bindS h1]
/-- the weights of such a graph -/
structure Un (adj : List (List Int)) (n : Nat) (W : Nat → Nat → Int) : Prop where
 a : adj = cadj n W
 e : onesE adj = ced n W
 t : Tw n W 1
theorem ones_canon {adj : List (List Int)} (hG : Gr adj) : ∃ W, Un adj adj.length W := by
 obtain ⟨c1, c2, c3⟩ := (ones_wt hG).canon (B := 1) (by omega) (fun e he x hx => by
  simp only [onesE, List.mem_map] at he
  obtain ⟨l, _, rfl⟩ := he
  rw [List.eq_of_mem_replicate hx]; omega)
 exact ⟨_, c1, c2, c3⟩
theorem ones_sum (n : Nat) : sm n (vw (List.replicate n 1)) ≤ n := by
 have : sm n (vw (List.replicate n 1)) ≤ n * 1 := sm_bound fun i hi => by
  rw [vw_get (show (List.replicate n (1 : Int))[i]? = some 1 by simp [hi])]
  omega
 omega
theorem Tw.up {n : Nat} {W : Nat → Nat → Int} {B C : Int} (h : Tw n W B) (hBC : B ≤ C) : Tw n W C := ⟨fun v u h1 h2 => ⟨(h.nn v u h1 h2).1, Int.le_trans (h.nn v u h1 h2).2 hBC⟩, h.sym, h.dg⟩
end Pd
/- The sides of a graph that is cut in two. -/
namespace Pd
open Pl Sx Go M Vc
set_option linter.unusedVariables false
set_option linter.unusedSimpArgs false
set_option maxHeartbeats 4000000
theorem side_ok {adj : List (List Int)} (hG : Gr adj) (hn : adj.length ≤ 30) : ∃ o, dissect_bisect FUEL adj (List.replicate adj.length 1) (onesE adj) = some (o, true) ∧ o.length = adj.length ∧ S01 o := by
 obtain ⟨W, h1, h2, h3⟩ := ones_canon hG
 obtain ⟨k, hk⟩ := fuel_succ'
 have he : et adj.length W ≤ 40000 := by
  have a1 : ∀ v, v < adj.length → sm adj.length (fun u => W v u) ≤ adj.length * 1 := fun v hv => sm_bound fun u hu => (h3.nn v u hv hu).2
  have a2 : et adj.length W ≤ adj.length * (adj.length * 1) := sm_bound a1
  have a3 : (adj.length : Int) * (adj.length * 1) ≤ 200 * 200 := by
   have b1 : (adj.length : Int) ≤ 200 := by omega
   have b2 : (adj.length : Int) * 1 ≤ 200 := by omega
   exact Int.mul_le_mul b1 b2 (by omega) (by omega)
  omega
 have hs := ones_sum adj.length
 obtain ⟨o, o1, o2, o3⟩ := bisectP_ok adj.length hn (h3.up (by omega)) (vx := List.replicate adj.length 1) (by simp) (fun x hx => by rw [List.eq_of_mem_replicate hx]; constructor <;> omega) (by omega) (by omega) FUEL (by omega)
 rw [← h1, ← h2] at o1
 exact ⟨o, o1, o2, o3⟩
end Pd
