/- The paper's refining. -/
import Derived.Test.YthpeajepbffinaaGreatPdZ
namespace Pd
open Pl Sx Go M Vc
set_option linter.unusedVariables false
set_option linter.unusedSimpArgs false
set_option maxHeartbeats 4000000

/-- the weight of a side -/
def wt (n : Nat) (vx : List Int) (s : Nat → Int) (i : Int) : Int := sm n fun v => if s v = i then vw vx v else 0

structure Vw (n : Nat) (vx : List Int) : Prop where
 len : vx.length = n
 wg : ∀ x, x ∈ vx → Wg x
theorem Vw.get {n : Nat} {vx : List Int} (h : Vw n vx) {v : Nat} (hv : v < n) : vx[v]? = some (vw vx v) ∧ 1 ≤ vw vx v ∧ vw vx v ≤ 1099511627776 := by
 have hl := h.len
 obtain ⟨x, hx⟩ : ∃ x, vx[v]? = some x := ⟨vx[v]'(by omega), by simp [show v < vx.length by omega]⟩
 have := h.wg x (mem_get hx)
 rw [vw_get hx]
 exact ⟨hx, this.1, this.2⟩
theorem wt_bound {n : Nat} {vx : List Int} (h : Vw n vx) {k : Nat} (hk : k ≤ n) (s : Nat → Int) (i : Int) : 0 ≤ wt k vx s i ∧ wt k vx s i ≤ k * 1099511627776 := by
 refine ⟨sm_nonneg fun v hv => ?_, sm_bound fun v hv => ?_⟩
 ·have := h.get (v := v) (by omega); split <;> omega
 ·have := h.get (v := v) (by omega)
  show (if s v = i then vw vx v else 0) ≤ _
  split <;> omega
theorem wt_sum {n : Nat} {vx : List Int} {s : Nat → Int} (h01 : ∀ v, v < n → s v = 0 ∨ s v = 1) : wt n vx s 0 + wt n vx s 1 = sm n (vw vx) := by
 unfold wt
 rw [← sm_add]
 refine sm_congr fun v hv => ?_
 rcases h01 v hv with h | h
 ·rw [if_pos h, if_neg (by omega)]; omega
 ·rw [if_neg (by omega), if_pos h]; omega
theorem wt_flip {n : Nat} {vx : List Int} {s : Nat → Int} {x : Nat} (hx : x < n) (h01 : s x = 0 ∨ s x = 1) :
  wt n vx (fun v => if v = x then 1 - s x else s v) (1 - s x) = wt n vx s (1 - s x) + vw vx x ∧ wt n vx (fun v => if v = x then 1 - s x else s v) (s x) = wt n vx s (s x) - vw vx x := by
 constructor
 ·rw [← sm_one (x := vw vx x) hx]
  unfold wt
  rw [← sm_add]
  refine sm_congr fun v hv => ?_
  show (if (if v = x then 1 - s x else s v) = 1 - s x then vw vx v else 0) = (if s v = 1 - s x then vw vx v else 0) + (if x = v then vw vx x else 0)
  by_cases h : v = x
  ·subst h
   rw [if_pos rfl, if_pos rfl, if_pos rfl, if_neg (by omega)]; omega
  ·rw [if_neg h, if_neg (show ¬ x = v from fun e => h e.symm)]; omega
 ·have : wt n vx (fun v => if v = x then 1 - s x else s v) (s x) + vw vx x = wt n vx s (s x) := by
   rw [← sm_one (x := vw vx x) hx]
   unfold wt
   rw [← sm_add]
   refine sm_congr fun v hv => ?_
   show (if (if v = x then 1 - s x else s v) = s x then vw vx v else 0) + (if x = v then vw vx x else 0) = (if s v = s x then vw vx v else 0)
   by_cases h : v = x
   ·subst h
    rw [if_pos rfl, if_pos rfl, if_pos rfl, if_neg (by omega)]; omega
   ·rw [if_neg h, if_neg (show ¬ x = v from fun e => h e.symm)]; omega
  omega

theorem sd_at {n : Nat} {side : List Int} (hs : side.length = n) {v : Nat} (hv : v < n) : side[v]? = some (sd side v) := by
 obtain ⟨x, hx⟩ : ∃ x, side[v]? = some x := ⟨side[v]'(by omega), by simp [show v < side.length by omega]⟩
 rw [sd_get hx]; exact hx
theorem sd01 {n : Nat} {side : List Int} (hs : side.length = n) (h01 : S01 side) : ∀ v, v < n → sd side v = 0 ∨ sd side v = 1 := fun v hv => h01 _ (mem_get (sd_at hs hv))
theorem sd_set {side : List Int} {k : Nat} (hk : k < side.length) : sd (side.set k (1 - sd side k)) = fun v => if v = k then 1 - sd side k else sd side v := by
 funext v
 show ((side.set k (1 - sd side k))[v]?).getD 0 = _
 rw [List.getElem?_set]
 by_cases hvk : k = v
 ·rw [if_pos hvk, if_pos hvk.symm, if_pos hk]; rfl
 ·rw [if_neg hvk, if_neg (fun e => hvk e.symm)]; rfl

theorem size2_ok {n : Nat} (hn : n ≤ 200) {side vx : List Int} (hs : side.length = n) (h01 : S01 side) (hv : Vw n vx) : loop (dissect_refine_l1 side vx) ([0, 0], 0) = some [wt n vx (sd side) 0, wt n vx (sd side) 1] := by
 refine Ret.eq ?_
 refine ret_loop n (fun k (t : List Int × Int) => t = ([wt k vx (sd side) 0, wt k vx (sd side) 1], (k : Int))) rfl ?_
 rintro k _ hk rfl
 unfold dissect_refine_l1
 simp only
 by_cases hkn : k < n
 ·have hw : wa .i64 (k : Int) 1 = ((k + 1 : Nat) : Int) := wa1 (by omega)
  have e1 : getI side (k : Int) = some (sd side k) := sd_at hs hkn
  obtain ⟨g1, g2, g3⟩ := hv.get hkn
  have e2 : getI vx (k : Int) = some (vw vx k) := g1
  have b0 := wt_bound hv hk (sd side) 0
  have b1 := wt_bound hv hk (sd side) 1
  have hk2 : (k : Int) * 1099511627776 ≤ 200 * 1099511627776 := by omega
  have u0 : wt (k + 1) vx (sd side) 0 = wt k vx (sd side) 0 + (if sd side k = 0 then vw vx k else 0) := rfl
  have u1 : wt (k + 1) vx (sd side) 1 = wt k vx (sd side) 1 + (if sd side k = 1 then vw vx k else 0) := rfl
  rw [if_pos (by omega), bindS e1]
  rcases sd01 hs h01 k hkn with h | h
  ·have a0 : wa .i64 (wt k vx (sd side) 0) (vw vx k) = wt (k + 1) vx (sd side) 0 := by rw [wa_in (by constructor <;> omega), u0, if_pos h]
   have a1 : wt (k + 1) vx (sd side) 1 = wt k vx (sd side) 1 := by rw [u1, if_neg (by omega)]; omega
   rw [h, bindS (show getI [wt k vx (sd side) 0, wt k vx (sd side) 1] 0 = some _ by rfl), bindS e2, bindS (show setI [wt k vx (sd side) 0, wt k vx (sd side) 1] 0 _ = some [_, wt k vx (sd side) 1] by rfl), a0, hw, ret_some, vq_l, a1]
   exact ⟨hkn, rfl⟩
  ·have a0 : wa .i64 (wt k vx (sd side) 1) (vw vx k) = wt (k + 1) vx (sd side) 1 := by rw [wa_in (by constructor <;> omega), u1, if_pos h]
   have a1 : wt (k + 1) vx (sd side) 0 = wt k vx (sd side) 0 := by rw [u0, if_neg (by omega)]; omega
   rw [h, bindS (show getI [wt k vx (sd side) 0, wt k vx (sd side) 1] 1 = some _ by rfl), bindS e2, bindS (show setI [wt k vx (sd side) 0, wt k vx (sd side) 1] 1 _ = some [wt k vx (sd side) 0, _] by rfl), a0, hw, ret_some, vq_l, a1]
   exact ⟨hkn, rfl⟩
 ·have : k = n := by omega
  subst this
  rw [if_neg (by omega), ret_some, vq_r]

theorem weightOf_ok {n : Nat} (hn : n ≤ 200) {side vx : List Int} (hs : side.length = n) (hv : Vw n vx) (i : Int) (a e : List (List Int)) : sparseref18_weightOf a vx e side i = some (wt n vx (sd side) i) := by
 have h1 : loop (sparseref18_weightOf_l3 side i vx) (0, 0) = some (wt n vx (sd side) i) := by
  refine Ret.eq ?_
  refine ret_loop n (fun k (t : Int × Int) => t = (wt k vx (sd side) i, (k : Int))) rfl ?_
  rintro k _ hk rfl
  unfold sparseref18_weightOf_l3 sparseref18_weightOf_j4
  simp only
  by_cases hkn : k < n
  ·have hw : wa .i64 (k : Int) 1 = ((k + 1 : Nat) : Int) := wa1 (by omega)
   have e1 : getI side (k : Int) = some (sd side k) := sd_at hs hkn
   obtain ⟨g1, g2, g3⟩ := hv.get hkn
   have e2 : getI vx (k : Int) = some (vw vx k) := g1
   have b0 := wt_bound hv hk (sd side) i
   have hk2 : (k : Int) * 1099511627776 ≤ 200 * 1099511627776 := by omega
   have u0 : wt (k + 1) vx (sd side) i = wt k vx (sd side) i + (if sd side k = i then vw vx k else 0) := rfl
   rw [if_pos (by omega), bindS e1]
   by_cases h : sd side k = i
   ·rw [if_pos h, bindS e2, wa_in (by constructor <;> omega), hw, ret_some, vq_l, u0, if_pos h]
    exact ⟨hkn, rfl⟩
   ·rw [if_neg h, hw, ret_some, vq_l, u0, if_neg h]
    exact ⟨hkn, by simp⟩
  ·have : k = n := by omega
   subst this
   rw [if_neg (by omega), ret_some, vq_r]
 unfold sparseref18_weightOf
 rw [bindS h1]

theorem rgain_row {n : Nat} {W : Nat → Nat → Int} {side : List Int} (hs : side.length = n) {v : Nat} (hv : v < n) {g : Int} (h : loop (dissect_refine_l72 ((nbs n (W v)).map Int.ofNat) side (sd side v) (ced n W) (v : Int)) (0, 0) = some g) : loop (sparseref18_Refine_l400 (ced n W) (v : Int) (cadj n W) side) (0, 0) = some g := by
 have e1 : getI (cadj n W) (v : Int) = some ((nbs n (W v)).map Int.ofNat) := cadj_get hv
 have e2 : getI (ced n W) (v : Int) = some ((nbs n (W v)).map (W v)) := ced_get hv
 have e3 : getI side (v : Int) = some (sd side v) := sd_at hs hv
 have hll : ((nbs n (W v)).map Int.ofNat).length = ((nbs n (W v)).map (W v)).length := by simp
 obtain ⟨b', k1, rfl⟩ := loop_simA (step1 := dissect_refine_l72 ((nbs n (W v)).map Int.ofNat) side (sd side v) (ced n W) (v : Int)) (step2 := sparseref18_Refine_l400 (ced n W) (v : Int) (cadj n W) side) (fun s t => t = s) (fun o o' => o' = o) (s := (0, 0)) (t := (0, 0)) rfl (by
  rintro ⟨c, k⟩ t r rfl hs
  unfold dissect_refine_l72 dissect_refine_j77 at hs
  unfold sparseref18_Refine_l400 sparseref18_Refine_j404
  simp only at hs ⊢
  rw [bindS e2]
  by_cases hk : k < (((nbs n (W v)).map Int.ofNat).length : Int)
  ·rw [if_pos hk] at hs
   rw [if_pos (by omega)]
   obtain ⟨u, hu, hs⟩ := bs hs
   obtain ⟨p, hp, hs⟩ := bs hs
   rw [bindS e1, bindS hu, bindS hp, bindS e3]
   by_cases hps : p = sd side v
   ·rw [if_pos hps] at hs ⊢
    rw [bindS e2] at hs ⊢
    obtain ⟨q, hq, hs⟩ := bs hs
    obtain rfl := Option.some.inj hs
    rw [bindS hq]
    exact ⟨_, rfl, .inl ⟨_, _, rfl, rfl, rfl⟩⟩
   ·rw [if_neg hps] at hs ⊢
    rw [bindS e2] at hs ⊢
    obtain ⟨q, hq, hs⟩ := bs hs
    obtain rfl := Option.some.inj hs
    rw [bindS hq]
    exact ⟨_, rfl, .inl ⟨_, _, rfl, rfl, rfl⟩⟩
  ·rw [if_neg hk] at hs
   rw [if_neg (by omega)]
   obtain rfl := Option.some.inj hs
   exact ⟨_, rfl, .inr ⟨_, _, rfl, rfl, rfl⟩⟩) h
 exact k1

def out2 : List Int ⊕ List Int → List Int
 | .inl s => s
 | .inr s => s
/-- the program's state and the paper's -/
def Rr (n : Nat) (vx : List Int) (side z side' : List Int) : Prop := side' = side ∧ side.length = n ∧ S01 side ∧ z = [wt n vx (sd side) 0, wt n vx (sd side) 1]

theorem rpass {n : Nat} (hn : n ≤ 200) {W : Nat → Nat → Int} {B : Int} (hT : Tw n W B) (hB : 0 ≤ B ∧ B ≤ 1099511627776) {vx : List Int} (hv : Vw n vx) {side0 : List Int} (h0 : side0.length = n) {x26 x27 r12 : Int} (hr12 : wa .i64 x26 x27 = r12) {side z : List Int} (hR : Rr n vx side z side) {o : List Int × List Int × Bool}
  (h : loop (dissect_refine_l69 side0 (cadj n W) (ced n W) vx x26 x27) (side, z, false, 0) = some o) : loop (sparseref18_Refine_l382 (ced n W) (cadj n W) vx r12) (side, false, 0) = some (o.1, o.2.2) ∧ Rr n vx o.1 o.2.1 o.1 := by
 obtain ⟨b', k1, rfl, k3⟩ := loop_simA (step1 := dissect_refine_l69 side0 (cadj n W) (ced n W) vx x26 x27) (step2 := sparseref18_Refine_l382 (ced n W) (cadj n W) vx r12) (fun s t => t = (s.1, s.2.2.1, s.2.2.2) ∧ Rr n vx s.1 s.2.1 s.1) (fun o o' => o' = (o.1, o.2.2) ∧ Rr n vx o.1 o.2.1 o.1) (s := (side, z, false, 0)) (t := (side, false, 0)) ⟨rfl, hR⟩ (by
  rintro ⟨a, z, mv, i⟩ t r ⟨rfl, _, h1, h2, hz⟩ hs
  simp only at h1 h2 hz ⊢
  subst hz
  unfold dissect_refine_l69 dissect_refine_j76 at hs
  unfold sparseref18_Refine_l382 sparseref18_Refine_j397
  simp only at hs ⊢
  by_cases hi : i < (side0.length : Int)
  ·rw [if_pos hi] at hs
   rw [if_pos (by omega)]
   obtain ⟨s, hs1, hs⟩ := bs hs
   obtain ⟨i0, i1, _⟩ := getI_nn hs1
   obtain ⟨k, rfl⟩ := Int.eq_ofNat_of_zero_le i0
   have hk : k < n := by omega
   have e1 : getI a (k : Int) = some (sd a k) := sd_at h1 hk
   rw [e1] at hs1
   obtain rfl := Option.some.inj hs1
   have hs01 := sd01 h1 h2 k hk
   have e3 : getI (cadj n W) (k : Int) = some ((nbs n (W k)).map Int.ofNat) := cadj_get hk
   have e6 := gain_row hn hT hB h1 hk
   have e7 := rgain_row h1 hk e6
   obtain ⟨g1, g2, g3⟩ := hv.get hk
   have e2 : getI vx (k : Int) = some (vw vx k) := g1
   have ho : ws .i64 1 (sd a k) = 1 - sd a k := by rw [ws_in (by constructor <;> omega)]
   have e8 := weightOf_ok hn h1 hv (1 - sd a k) (cadj n W) (ced n W)
   have e9 : getI [wt n vx (sd a) 0, wt n vx (sd a) 1] (1 - sd a k) = some (wt n vx (sd a) (1 - sd a k)) := by
    rcases hs01 with h | h <;> rw [h] <;> rfl
   have e10 : getI [wt n vx (sd a) 0, wt n vx (sd a) 1] (sd a k) = some (wt n vx (sd a) (sd a k)) := by
    rcases hs01 with h | h <;> rw [h] <;> rfl
   rw [bindS e3, bindS e6, ho] at hs
   rw [bindS e7]
   by_cases hg : 0 < gn n W (sd a) k
   ·rw [if_pos hg, bindS e9, bindS e2, bindS rfl] at hs
    rw [if_neg (by omega), bindS e1, ho, bindS e8, bindS e2, bindS rfl]
    rw [hr12] at hs
    by_cases hd : wm .i64 3 (wa .i64 (wt n vx (sd a) (1 - sd a k)) (vw vx k)) ≤ wm .i64 2 r12
    ·rw [if_pos (by simpa using hd), bindS (setI_lt (by omega)), bindS e10, bindS e2] at hs
     rw [if_neg (by simpa using hd), bindS e1, ho, bindS (setI_lt (by omega))]
     have hset := sd_set (side := a) (k := k) (by omega)
     obtain ⟨f1, f2⟩ := wt_flip (vx := vx) hk hs01
     rw [← hset] at f1 f2
     have b0 := wt_bound hv (Nat.le_refl n) (sd a) (1 - sd a k)
     have b1 := wt_bound hv (Nat.le_refl n) (sd a) (sd a k)
     have b2 := wt_bound hv (Nat.le_refl n) (sd (a.set k (1 - sd a k))) (sd a k)
     have hk2 : (n : Int) * 1099511627776 ≤ 200 * 1099511627776 := by omega
     have q1 : ws .i64 (wt n vx (sd a) (sd a k)) (vw vx k) = wt n vx (sd (a.set k (1 - sd a k))) (sd a k) := by rw [ws_in (by constructor <;> omega), f2]
     have q2 : wa .i64 (wt n vx (sd a) (1 - sd a k)) (vw vx k) = wt n vx (sd (a.set k (1 - sd a k))) (1 - sd a k) := by rw [wa_in (by constructor <;> omega), f1]
     have st : ∃ z1, setI [wt n vx (sd a) 0, wt n vx (sd a) 1] (sd a k) (wt n vx (sd (a.set k (1 - sd a k))) (sd a k)) = some z1 ∧ getI z1 (1 - sd a k) = some (wt n vx (sd a) (1 - sd a k)) ∧ setI z1 (1 - sd a k) (wt n vx (sd (a.set k (1 - sd a k))) (1 - sd a k)) = some [wt n vx (sd (a.set k (1 - sd a k))) 0, wt n vx (sd (a.set k (1 - sd a k))) 1] := by
      generalize sd (a.set k (1 - sd a k)) = s'
      rcases hs01 with h | h <;> rw [h] <;> exact ⟨_, rfl, rfl, rfl⟩
     obtain ⟨z1, z2, z3, z4⟩ := st
     rw [q1, bindS z2, bindS z3, bindS e2, q2, bindS z4] at hs
     obtain rfl := Option.some.inj hs
     refine ⟨_, rfl, .inl ⟨_, _, rfl, rfl, rfl, rfl, by simp [h1], ?_, rfl⟩⟩
     intro x hx
     rcases List.mem_or_eq_of_mem_set hx with hx | rfl
     ·exact h2 x hx
     ·omega
    ·rw [if_neg (by simpa using hd)] at hs
     rw [if_pos (by simp; omega)]
     obtain rfl := Option.some.inj hs
     exact ⟨_, rfl, .inl ⟨_, _, rfl, rfl, rfl, rfl, h1, h2, rfl⟩⟩
   ·rw [if_neg hg, bindS rfl, if_neg (by simp)] at hs
    rw [if_pos (by omega), bindS rfl, if_pos rfl]
    obtain rfl := Option.some.inj hs
    exact ⟨_, rfl, .inl ⟨_, _, rfl, rfl, rfl, rfl, h1, h2, rfl⟩⟩
  ·rw [if_neg hi] at hs
   rw [if_neg (by omega)]
   obtain rfl := Option.some.inj hs
   exact ⟨_, rfl, .inr ⟨_, _, rfl, rfl, rfl, rfl, h1, h2, rfl⟩⟩) h
 exact ⟨k1, k3⟩

theorem twin_ok {l : List Int} (hl : l.length ≤ 100000) : sparsekit_TwinInts l = some l := by
 have h1 : loop (sparsekit_TwinInts_l1 l) ([], 0) = some l := by
  refine Ret.eq ?_
  refine ret_loop l.length (fun k (t : List Int × Int) => t = (l.take k, (k : Int))) rfl ?_
  rintro k _ hk rfl
  unfold sparsekit_TwinInts_l1
  simp only
  by_cases hkl : k < l.length
  ·obtain ⟨x, hx⟩ : ∃ x, l[k]? = some x := ⟨l[k], by simp [hkl]⟩
   have hw : wa .i64 (k : Int) 1 = ((k + 1 : Nat) : Int) := wa1 (by omega)
   have e1 : getI l (k : Int) = some x := hx
   have e2 : app (l.take k) [x] = some (l.take (k + 1)) := by
    unfold app BIG
    rw [if_pos (by simp; omega), tks hx]
   rw [if_pos (by omega), bindS e1, bindS e2, hw, ret_some, vq_l]
   exact ⟨hkl, rfl⟩
  ·rw [if_neg (by omega), ret_some, vq_r, take_all (by omega)]
 unfold sparsekit_TwinInts
 rw [bindS h1]

theorem rrefine_ok {n : Nat} (hn : n ≤ 200) {W : Nat → Nat → Int} {B : Int} (hT : Tw n W B) (hB : 0 ≤ B ∧ B ≤ 1099511627776) {vx : List Int} (hv : Vw n vx) {side : List Int} (h0 : side.length = n) (h01 : S01 side) {o : List Int}
  (h : dissect_refine (cadj n W) vx (ced n W) side = some o) : sparseref18_Refine (cadj n W) vx (ced n W) side = some o := by
 have hvl := hv.len
 have hsz := size2_ok hn h0 h01 hv
 have hsum := wt_sum (vx := vx) (sd01 h0 h01)
 have b0 := wt_bound hv (Nat.le_refl n) (sd side) 0
 have b1 := wt_bound hv (Nat.le_refl n) (sd side) 1
 have hk2 : (n : Int) * 1099511627776 ≤ 200 * 1099511627776 := by omega
 have hr12 : wa .i64 (wt n vx (sd side) 0) (wt n vx (sd side) 1) = sm n (vw vx) := by rw [wa_in (by constructor <;> omega), hsum]
 have tot := total_ok (vx := vx) (n := n) hn hvl hv.wg (cadj n W) (ced n W)
 unfold dissect_refine at h
 rw [bindS hsz, bindS (show getI [wt n vx (sd side) 0, wt n vx (sd side) 1] 0 = some (wt n vx (sd side) 0) by rfl), bindS (show getI [wt n vx (sd side) 0, wt n vx (sd side) 1] 1 = some (wt n vx (sd side) 1) by rfl)] at h
 obtain ⟨o1, h, ho⟩ := bs h
 have ho' : out2 o1 = o := by
  cases o1 with
  | inl a => exact Option.some.inj ho
  | inr a => exact Option.some.inj ho
 obtain ⟨b', k1, k2⟩ := loop_simA (step1 := dissect_refine_l52 (cadj n W) (ced n W) vx (wt n vx (sd side) 0) (wt n vx (sd side) 1)) (step2 := sparseref18_Refine_l337 (ced n W) (cadj n W) vx (sm n (vw vx))) (fun s t => t = (s.1, s.2.2) ∧ Rr n vx s.1 s.2.1 s.1) (fun o o' => o' = out2 o) (s := (side, [wt n vx (sd side) 0, wt n vx (sd side) 1], 0)) (t := (side, 0)) ⟨rfl, rfl, h0, h01, rfl⟩ (by
  rintro ⟨a, z, i⟩ t r ⟨rfl, hR⟩ hs
  simp only at hR ⊢
  unfold dissect_refine_l52 at hs
  unfold sparseref18_Refine_l337
  simp only at hs ⊢
  by_cases hi : i < 4
  ·rw [if_pos hi] at hs ⊢
   obtain ⟨⟨s', z', mv⟩, p1, hs⟩ := bs hs
   obtain ⟨p2, p3⟩ := rpass hn hT hB hv hR.2.1 hr12 hR p1
   simp only at p2 p3 hs
   rw [bindS p2]
   simp only
   cases mv with
   | true =>
    rw [if_pos rfl] at hs ⊢
    obtain rfl := Option.some.inj hs
    exact ⟨_, rfl, .inl ⟨_, _, rfl, rfl, rfl, p3⟩⟩
   | false =>
    rw [if_neg (by simp)] at hs ⊢
    obtain rfl := Option.some.inj hs
    exact ⟨_, rfl, .inr ⟨_, _, rfl, rfl, rfl⟩⟩
  ·rw [if_neg hi] at hs ⊢
   obtain rfl := Option.some.inj hs
   exact ⟨_, rfl, .inr ⟨_, _, rfl, rfl, rfl⟩⟩) h
 unfold sparseref18_Refine
 rw [bindS (twin_ok (by omega)), bindS tot, bindS k1, k2, ho']
end Pd
/- The bisection is the paper's; DissectMade. -/
namespace Pd
open Pl Sx Go M Vc
set_option linter.unusedVariables false
set_option linter.unusedSimpArgs false
set_option maxHeartbeats 4000000

/-- the weight of all edges, twice -/
def et (n : Nat) (W : Nat → Nat → Int) : Int := sm n fun v => sm n fun u => W v u

theorem fuel_succ' : ∃ k, FUEL = k + 1000 := ⟨1099511626776, rfl⟩
theorem bisect_succ' (k : Nat) : dissect_bisect (k + 1) = dissect_bisect_body (dissect_bisect k) := rfl
theorem rbisect_succ (k : Nat) : sparseref18_Bisect (k + 1) = sparseref18_Bisect_body (sparseref18_Bisect k) := rfl

/-- the sides of the vertices, from those of the coarse ones -/
def fineL (n : Nat) (to cs : List Int) : List Int := (List.range n).map fun v => sd cs (tt to v)
theorem fineL_len {n : Nat} {to cs : List Int} : (fineL n to cs).length = n := by simp [fineL]
theorem fineL_01 {n K : Nat} {to cs : List Int} (hto : ∀ u, u < n → tt to u < K) (hc : cs.length = K) (h : S01 cs) : S01 (fineL n to cs) := by
 intro x hx
 unfold fineL at hx
 rw [List.mem_map] at hx
 obtain ⟨v, hv, rfl⟩ := hx
 exact sd01 hc h _ (hto v (List.mem_range.1 hv))

theorem fine1 {r76 : (List (List Int)) × (List Int) × (List (List Int)) × (List Int) × Bool} {r115 : (List Int) × Bool} {n K : Nat} (hn : n ≤ 200) {to cs : List Int} (h1 : r76.2.2.2.1 = to) (h2 : r115.1 = cs) (htl : to.length = n) (hto : ∀ v, v < n → ∃ a : Nat, to[v]? = some (a : Int) ∧ a < K) (hc : cs.length = K) {s0 : List Int} (h0 : s0.length = n) :
  loop (dissect_bisect_l9 r76 r115) (s0, 0) = some (fineL n to cs) := by
 subst h1
 subst h2
 refine Ret.eq ?_
 refine ret_loop n (fun k (t : List Int × Int) => t.2 = k ∧ t.1.length = n ∧ ∀ v, v < k → t.1[v]? = some (sd r115.1 (tt r76.2.2.2.1 v))) ⟨rfl, h0, fun v hv => by omega⟩ ?_
 rintro k ⟨a, i⟩ hk ⟨hi, g1, g2⟩
 simp only at hi g1 g2
 subst hi
 unfold dissect_bisect_l9
 simp only
 by_cases hkn : k < n
 ·obtain ⟨b, b1, b2⟩ := hto k hkn
  have hw : wa .i64 (k : Int) 1 = ((k + 1 : Nat) : Int) := wa1 (by omega)
  have e1 : getI r76.2.2.2.1 (k : Int) = some (b : Int) := b1
  have e2 : getI r115.1 (b : Int) = some (sd r115.1 b) := sd_at hc b2
  rw [if_pos (by omega), bindS e1, bindS e2, bindS (setI_lt (by omega)), hw, ret_some, vq_l]
  refine ⟨hkn, rfl, by simp [g1], fun v hv => ?_⟩
  rw [List.getElem?_set]
  by_cases hkv : k = v
  ·subst hkv
   rw [if_pos rfl, if_pos (by omega), tt_get b1, Int.toNat_natCast]
  ·rw [if_neg hkv, g2 v (by omega)]
 ·rw [if_neg (by omega), ret_some, vq_r]
  apply List.ext_getElem?
  intro v
  by_cases hv : v < n
  ·rw [g2 v (by omega)]; simp [fineL, hv]
  ·rw [List.getElem?_eq_none (by omega), List.getElem?_eq_none (by rw [fineL_len]; omega)]

theorem fine2 {vx : List Int} {r16 : (List (List Int)) × (List Int) × (List (List Int)) × (List Int) × Int} {r30 : (List Int) × Int} {n K : Nat} (hn : n ≤ 200) (hv : vx.length = n) {to cs : List Int} (h1 : r16.2.2.2.1 = to) (h2 : r30.1 = cs) (hto : ∀ v, v < n → ∃ a : Nat, to[v]? = some (a : Int) ∧ a < K) (hc : cs.length = K) {s0 : List Int} (h0 : s0.length = n) :
  loop (sparseref18_Bisect_l1 vx r16 r30) (s0, 0) = some (fineL n to cs) := by
 subst h1
 subst h2
 refine Ret.eq ?_
 refine ret_loop n (fun k (t : List Int × Int) => t.2 = k ∧ t.1.length = n ∧ ∀ v, v < k → t.1[v]? = some (sd r30.1 (tt r16.2.2.2.1 v))) ⟨rfl, h0, fun v hv => by omega⟩ ?_
 rintro k ⟨a, i⟩ hk ⟨hi, g1, g2⟩
 simp only at hi g1 g2
 subst hi
 unfold sparseref18_Bisect_l1
 simp only
 by_cases hkn : k < n
 ·obtain ⟨b, b1, b2⟩ := hto k hkn
  have hw : wa .i64 (k : Int) 1 = ((k + 1 : Nat) : Int) := wa1 (by omega)
  have e1 : getI r16.2.2.2.1 (k : Int) = some (b : Int) := b1
  have e2 : getI r30.1 (b : Int) = some (sd r30.1 b) := sd_at hc b2
  rw [if_pos (by omega), bindS e1, bindS e2, bindS (setI_lt (by omega)), hw, ret_some, vq_l]
  refine ⟨hkn, rfl, by simp [g1], fun v hv => ?_⟩
  rw [List.getElem?_set]
  by_cases hkv : k = v
  ·subst hkv
   rw [if_pos rfl, if_pos (by omega), tt_get b1, Int.toNat_natCast]
  ·rw [if_neg hkv, g2 v (by omega)]
 ·rw [if_neg (by omega), ret_some, vq_r]
  apply List.ext_getElem?
  intro v
  by_cases hv : v < n
  ·rw [g2 v (by omega)]; simp [fineL, hv]
  ·rw [List.getElem?_eq_none (by omega), List.getElem?_eq_none (by rw [fineL_len]; omega)]

/-- what a graph is coarsened to, when its weights are moderate -/
structure Cg (n : Nat) (W : Nat → Nat → Int) (vx m vs to : List Int) : Prop where
 kn : vs.length ≤ n
 tl : to.length = n
 tr : ∀ v, v < n → ∃ a : Nat, to[v]? = some (a : Int) ∧ a < vs.length
 tw : Tw vs.length (cw (tabS n W to n)) 1099511627776
 vv : Vw vs.length vs
 ee : et vs.length (cw (tabS n W to n)) ≤ 1099511627776
 ws : sm vs.length (vw vs) ≤ 1099511627776
 p : dissect_coarsen (cadj n W) vx (ced n W) m = some (cadj vs.length (cw (tabS n W to n)), vs, ced vs.length (cw (tabS n W to n)), to, true)
 r : sparseref18_Coarsen (cadj n W) vx (ced n W) m = some (cadj vs.length (cw (tabS n W to n)), vs, ced vs.length (cw (tabS n W to n)), to, 0)

theorem cadj_sz {n : Nat} {W : Nat → Nat → Int} : ∀ x, x ∈ cadj n W → x.length ≤ n := by
 intro x hx
 unfold cadj at hx
 rw [List.mem_map] at hx
 obtain ⟨v, _, rfl⟩ := hx
 have := nbs_len (n := n) (f := W v)
 simp; omega
theorem ced_sz {n : Nat} {W : Nat → Nat → Int} : ∀ x, x ∈ ced n W → x.length ≤ n := by
 intro x hx
 unfold ced at hx
 rw [List.mem_map] at hx
 obtain ⟨v, _, rfl⟩ := hx
 have := nbs_len (n := n) (f := W v)
 simp; omega

end Pd
/- Both checks of any weighted graph. -/
namespace Pd
open Pl Sx Go M Vc Pu
set_option linter.unusedVariables false
set_option linter.unusedSimpArgs false
set_option maxHeartbeats 4000000

/-- the weights of the edges agree -/
def Sy (adj ed : List (List Int)) (v : Nat) (l e : List Int) : Prop := ∀ (k : Nat) u x, l[k]? = some u → e[k]? = some x → ∃ l' e', ∃ k' : Nat, adj[u.toNat]? = some l' ∧ ed[u.toNat]? = some e' ∧ l'[k']? = some (v : Int) ∧ e'[k']? = some x

theorem at_mem {α : Type} {l : List α} {x : α} (h : x ∈ l) : ∃ k : Nat, l[k]? = some x := by
 obtain ⟨k, hk, rfl⟩ := List.getElem_of_mem h
 exact ⟨k, by simp [hk]⟩

theorem row_of {adj ed : List (List Int)} (hel : ed.length = adj.length) {v : Nat} (hv : v < adj.length) : ∃ l e, adj[v]? = some l ∧ ed[v]? = some e := by
 obtain ⟨l, hl⟩ : ∃ l, adj[v]? = some l := ⟨adj[v], by simp [hv]⟩
 obtain ⟨e, he⟩ : ∃ e, ed[v]? = some e := ⟨ed[v]'(by omega), by simp [show v < ed.length by omega]⟩
 exact ⟨l, e, hl, he⟩

/-- a check's answer: 1, or 0 and the graph is valid -/
theorem pcheck_cases {adj : List (List Int)} {vx : List Int} {ed : List (List Int)} (hG : Gr adj) (hn : adj.length ≤ 200) (hvs : vx.length ≤ 1000) (hes : ∀ e, e ∈ ed → e.length ≤ 1000) :
  Ret (dissect_CheckWeighted adj vx ed) (fun e => e = 1 ∨ (e = 0 ∧ Wt adj vx ed)) := by
 unfold dissect_CheckWeighted
 rw [bindS (graphCheck_ok hG hn), if_pos rfl]
 by_cases hl : vx.length = adj.length ∧ ed.length = adj.length
 ·obtain ⟨hvl, hel⟩ := hl
  obtain ⟨b, b1, b2⟩ := weights_ok (l := vx) (by omega)
  rw [if_neg (by simp; omega), bindS b1]
  cases b with
  | false => rw [bindS rfl, if_pos (show (!false) = true from rfl), ret_some]; exact .inl rfl
  | true =>
   rw [bindS rfl, if_neg (by simp)]
   have p5 : Ret (loop (dissect_CheckWeighted_l5 adj ed) 0) (fun o => o = .inr () ∨ (o = .inl () ∧ ∀ (v : Nat) l e, v < adj.length → adj[v]? = some l → ed[v]? = some e → e.length = l.length ∧ ∀ x, x ∈ e → Wg x)) := by
    refine ret_loop adj.length (fun k (t : Int) => t = (k : Int) ∧ ∀ (v : Nat) l e, v < k → adj[v]? = some l → ed[v]? = some e → e.length = l.length ∧ ∀ x, x ∈ e → Wg x) ⟨rfl, fun v l e hv => by omega⟩ ?_
    rintro k t hk ⟨rfl, hI⟩
    unfold dissect_CheckWeighted_l5
    by_cases hkl : k < adj.length
    ·obtain ⟨l, e, e1, e2⟩ := row_of hel hkl
     have e1' : getI adj (k : Int) = some l := e1
     have e2' : getI ed (k : Int) = some e := e2
     have hw : wa .i64 (k : Int) 1 = ((k + 1 : Nat) : Int) := wa1 (by omega)
     rw [if_pos (by omega), bindS e1', bindS e2']
     by_cases hle : e.length = l.length
     ·obtain ⟨c, c1, c2⟩ := weights_ok (l := e) (by have := hes e (mem_get e2); omega)
      rw [if_pos (by omega), bindS e2', bindS c1, bindS rfl]
      cases c with
      | false => rw [if_pos (show (!false) = true from rfl), ret_some, vq_r]; exact .inl rfl
      | true =>
       rw [if_neg (by simp), hw, ret_some, vq_l]
       refine ⟨hkl, rfl, fun v l' e' hv h1 h2 => ?_⟩
       by_cases hvk : v < k
       ·exact hI v l' e' hvk h1 h2
       ·have : v = k := by omega
        subst this
        rw [e1] at h1; rw [e2] at h2
        obtain rfl := Option.some.inj h1
        obtain rfl := Option.some.inj h2
        exact ⟨hle, c2.1 rfl⟩
     ·rw [if_neg (by omega), bindS rfl, if_pos rfl, ret_some, vq_r]; exact .inl rfl
    ·rw [if_neg (by omega), ret_some, vq_r]
     exact .inr ⟨rfl, fun v l e hv => hI v l e (by omega)⟩
   obtain ⟨o, o1, o2⟩ := p5
   rw [bindS o1]
   rcases o2 with rfl | ⟨rfl, hA⟩
   ·simp only; rw [ret_some]; exact .inl rfl
   ·simp only
    have p8 : Ret (loop (dissect_CheckWeighted_l8 adj ed vx) 0) (fun o => o = .inr () ∨ (o = .inl () ∧ ∀ (v : Nat) l e, v < adj.length → adj[v]? = some l → ed[v]? = some e → Sy adj ed v l e)) := by
     refine ret_loop adj.length (fun k (t : Int) => t = (k : Int) ∧ ∀ (v : Nat) l e, v < k → adj[v]? = some l → ed[v]? = some e → Sy adj ed v l e) ⟨rfl, fun v l e hv => by omega⟩ ?_
     rintro v t hk ⟨rfl, hI⟩
     unfold dissect_CheckWeighted_l8
     by_cases hkl : v < adj.length
     ·obtain ⟨l, e, e1, e2⟩ := row_of hel hkl
      have e1' : getI adj (v : Int) = some l := e1
      have e2' : getI ed (v : Int) = some e := e2
      have hll := hG.len e1
      obtain ⟨hle, _⟩ := hA v l e hkl e1 e2
      have hw : wa .i64 (v : Int) 1 = ((v + 1 : Nat) : Int) := wa1 (by omega)
      rw [if_pos (by omega), bindS e1']
      have inner : Ret (loop (dissect_CheckWeighted_l9 l ed (v : Int) adj vx) 0) (fun o => o = .inr () ∨ (o = .inl () ∧ Sy adj ed v l e)) := by
       refine ret_loop l.length (fun k (t : Int) => t = (k : Int) ∧ ∀ (j : Nat) u x, j < k → l[j]? = some u → e[j]? = some x → ∃ l' e', ∃ k' : Nat, adj[u.toNat]? = some l' ∧ ed[u.toNat]? = some e' ∧ l'[k']? = some (v : Int) ∧ e'[k']? = some x) ⟨rfl, fun j u x hj => by omega⟩ ?_
       rintro k t hk ⟨rfl, hJ⟩
       unfold dissect_CheckWeighted_l9
       by_cases hkl : k < l.length
       ·obtain ⟨u, hu⟩ : ∃ u, l[k]? = some u := ⟨l[k], by simp [hkl]⟩
        obtain ⟨x, hx⟩ : ∃ x, e[k]? = some x := ⟨e[k]'(by omega), by simp [show k < e.length by omega]⟩
        have hur := hG.rng v l u e1 (mem_get hu)
        obtain ⟨l', f1, hm⟩ := hG.sym v l u e1 (mem_get hu)
        obtain ⟨k', f3⟩ := at_mem hm
        obtain ⟨_, e', _, f2⟩ := row_of hel (v := u.toNat) (by omega)
        obtain ⟨hle', _⟩ := hA u.toNat l' e' (by omega) f1 f2
        have hk' := (List.getElem?_eq_some_iff.1 f3).1
        obtain ⟨y, f4⟩ : ∃ y, e'[k']? = some y := ⟨e'[k']'(by omega), by simp [show k' < e'.length by omega]⟩
        have g1 : getI l (k : Int) = some u := hu
        have g2 : getI e (k : Int) = some x := hx
        have g3 : getI adj u = some l' := getI_of hur.1 f1
        have g4 : getI ed u = some e' := getI_of hur.1 f2
        have g5 := search_at (hG.asc _ _ f1) (by have := hG.len f1; omega) f3
        have g6 : getI e' (k' : Int) = some y := f4
        have g7 : dissect_weight adj vx ed u (v : Int) = some y := by
         unfold dissect_weight
         rw [bindS g3, bindS g5, bindS g4, bindS g6]
        have hw : wa .i64 (k : Int) 1 = ((k + 1 : Nat) : Int) := wa1 (by omega)
        rw [if_pos (by omega), bindS g1, bindS e2', bindS g2, bindS g7]
        by_cases hxy : x = y
        ·subst hxy
         rw [if_pos rfl, hw, ret_some, vq_l]
         refine ⟨hkl, rfl, fun j u' x' hj h1 h2 => ?_⟩
         by_cases hjk : j < k
         ·exact hJ j u' x' hjk h1 h2
         ·have : j = k := by omega
          subst this
          rw [hu] at h1; rw [hx] at h2
          obtain rfl := Option.some.inj h1
          obtain rfl := Option.some.inj h2
          exact ⟨l', e', k', f1, f2, f3, f4⟩
        ·rw [if_neg hxy, ret_some, vq_r]; exact .inl rfl
       ·rw [if_neg (by omega), ret_some, vq_r]
        exact .inr ⟨rfl, fun j u x h1 h2 => hJ j u x (by have := (List.getElem?_eq_some_iff.1 h1).1; omega) h1 h2⟩
      obtain ⟨o, o1, o2⟩ := inner
      rw [bindS o1]
      rcases o2 with rfl | ⟨rfl, hS⟩
      ·simp only; rw [ret_some, vq_r]; exact .inl rfl
      ·simp only
       rw [hw, ret_some, vq_l]
       refine ⟨hkl, rfl, fun w l' e' hv h1 h2 => ?_⟩
       by_cases hvk : w < v
       ·exact hI w l' e' hvk h1 h2
       ·have : w = v := by omega
        subst this
        rw [e1] at h1; rw [e2] at h2
        obtain rfl := Option.some.inj h1
        obtain rfl := Option.some.inj h2
        exact hS
     ·rw [if_neg (by omega), ret_some, vq_r]
      exact .inr ⟨rfl, fun v l e hv => hI v l e (by omega)⟩
    obtain ⟨o, o1, o2⟩ := p8
    rw [bindS o1]
    rcases o2 with rfl | ⟨rfl, hS⟩
    ·simp only; rw [ret_some]; exact .inl rfl
    ·simp only; rw [ret_some]
     have lt : ∀ {v : Nat} {l : List Int}, adj[v]? = some l → v < adj.length := fun h => (List.getElem?_eq_some_iff.1 h).1
     refine .inr ⟨rfl, hG, hvl, hel, b2.1 rfl, fun v l e h1 h2 => (hA v l e (lt h1) h1 h2).1, fun e he => ?_, fun v k l e u x h1 h2 h3 h4 => hS v l e (lt h1) h1 h2 k u x h3 h4⟩
     obtain ⟨v, hv⟩ := at_mem he
     have hvn := (List.getElem?_eq_some_iff.1 hv).1
     obtain ⟨l, _, h1, _⟩ := row_of hel (v := v) (by omega)
     exact (hA v l e (by omega) h1 hv).2
 ·rw [if_pos (by simp; omega), bindS rfl, if_pos rfl, ret_some]; exact .inl rfl

theorem redge_ok {adj : List (List Int)} {vx : List Int} {ed : List (List Int)} {u : Nat} {v : Int} {l' e' : List Int} (hd : l'.Pairwise (· < ·)) (h1 : adj[u]? = some l') (h2 : ed[u]? = some e') (hlen : l'.length ≤ 100000) {k' : Nat} {y : Int} (h3 : l'[k']? = some v) (h4 : e'[k']? = some y) : sparseref18_edge adj vx ed (u : Int) v = some y := by
 have e1 : getI adj (u : Int) = some l' := h1
 have e2 : getI ed (u : Int) = some e' := h2
 have hk' := (List.getElem?_eq_some_iff.1 h3).1
 have nd : l'.Nodup := (List.nodup_iff_pairwise_ne).2 (hd.imp fun h => by omega)
 have hl : loop (sparseref18_edge_l1 adj (u : Int) v ed) 0 = some (.inr y) := by
  refine Ret.eq ?_
  refine ret_loop k' (fun k (t : Int) => t = (k : Int)) rfl ?_
  rintro k _ hk rfl
  unfold sparseref18_edge_l1
  have hkl : k < l'.length := by omega
  obtain ⟨x, hx⟩ : ∃ x, l'[k]? = some x := ⟨l'[k], by simp [hkl]⟩
  have e3 : getI l' (k : Int) = some x := hx
  rw [bindS e1, if_pos (by omega), bindS e1, bindS e3]
  by_cases hkk : k = k'
  ·subst hkk
   rw [hx] at h3
   obtain rfl := Option.some.inj h3
   have e4 : getI e' (k : Int) = some y := h4
   rw [if_pos rfl, bindS e2, bindS e4, ret_some, vq_r]
  ·have hne : ¬ x = v := by
    intro he
    subst he
    have a1 := (List.getElem?_eq_some_iff.1 hx).2
    have a2 := (List.getElem?_eq_some_iff.1 h3).2
    exact hkk (nodup_inj nd (a1.trans a2.symm))
   rw [if_neg hne, wa1 (by omega), ret_some, vq_l]
   exact ⟨by omega, rfl⟩
 unfold sparseref18_edge
 rw [bindS hl]

theorem rcheck_cases {adj : List (List Int)} {vx : List Int} {ed : List (List Int)} (hG : Gr adj) (hn : adj.length ≤ 200) (hes : ∀ e, e ∈ ed → e.length ≤ 1000) :
  Ret (sparseref18_CheckWeighted adj vx ed) (fun e => e = 1 ∨ (e = 0 ∧ Wt adj vx ed)) := by
 unfold sparseref18_CheckWeighted
 rw [bindS (rCheck_ok hG hn), if_pos rfl]
 by_cases hl : vx.length = adj.length ∧ ed.length = adj.length
 ·obtain ⟨hvl, hel⟩ := hl
  rw [if_neg (by simp; omega)]
  have p2 : Ret (loop (sparseref18_CheckWeighted_l2 adj ed) 0) (fun o => o = .inr () ∨ (o = .inl () ∧ ∀ (v : Nat) l e, v < adj.length → adj[v]? = some l → ed[v]? = some e → e.length = l.length)) := by
   refine ret_loop adj.length (fun k (t : Int) => t = (k : Int) ∧ ∀ (v : Nat) l e, v < k → adj[v]? = some l → ed[v]? = some e → e.length = l.length) ⟨rfl, fun v l e hv => by omega⟩ ?_
   rintro k t hk ⟨rfl, hI⟩
   unfold sparseref18_CheckWeighted_l2
   by_cases hkl : k < adj.length
   ·obtain ⟨l, e, e1, e2⟩ := row_of hel hkl
    have e1' : getI adj (k : Int) = some l := e1
    have e2' : getI ed (k : Int) = some e := e2
    have hw : wa .i64 (k : Int) 1 = ((k + 1 : Nat) : Int) := wa1 (by omega)
    rw [if_pos (by omega), bindS e2', bindS e1']
    by_cases hle : e.length = l.length
    ·rw [if_pos (by omega), hw, ret_some, vq_l]
     refine ⟨hkl, rfl, fun v l' e' hv h1 h2 => ?_⟩
     by_cases hvk : v < k
     ·exact hI v l' e' hvk h1 h2
     ·have : v = k := by omega
      subst this
      rw [e1] at h1; rw [e2] at h2
      obtain rfl := Option.some.inj h1
      obtain rfl := Option.some.inj h2
      exact hle
    ·rw [if_neg (by omega), ret_some, vq_r]; exact .inl rfl
   ·rw [if_neg (by omega), ret_some, vq_r]
    exact .inr ⟨rfl, fun v l e hv => hI v l e (by omega)⟩
  obtain ⟨o, o1, o2⟩ := p2
  rw [bindS o1]
  rcases o2 with rfl | ⟨rfl, hA⟩
  ·simp only; rw [ret_some]; exact .inl rfl
  ·simp only
   have p43 : Ret (loop (sparseref18_CheckWeighted_l43 adj vx ed) 0) (fun o => o = .inr () ∨ (o = .inl () ∧ ∀ (v : Nat) l e y, v < adj.length → adj[v]? = some l → ed[v]? = some e → vx[v]? = some y → Wg y ∧ (∀ x, x ∈ e → Wg x) ∧ Sy adj ed v l e)) := by
    refine ret_loop adj.length (fun k (t : Int) => t = (k : Int) ∧ ∀ (v : Nat) l e y, v < k → adj[v]? = some l → ed[v]? = some e → vx[v]? = some y → Wg y ∧ (∀ x, x ∈ e → Wg x) ∧ Sy adj ed v l e) ⟨rfl, fun v l e y hv => by omega⟩ ?_
    rintro v t hk ⟨rfl, hI⟩
    unfold sparseref18_CheckWeighted_l43
    by_cases hkl : v < adj.length
    ·obtain ⟨l, e, e1, e2⟩ := row_of hel hkl
     obtain ⟨y, e3⟩ : ∃ y, vx[v]? = some y := ⟨vx[v]'(by omega), by simp [show v < vx.length by omega]⟩
     have e1' : getI adj (v : Int) = some l := e1
     have e2' : getI ed (v : Int) = some e := e2
     have e3' : getI vx (v : Int) = some y := e3
     have hll := hG.len e1
     have hle := hA v l e hkl e1 e2
     have hw : wa .i64 (v : Int) 1 = ((v + 1 : Nat) : Int) := wa1 (by omega)
     rw [if_pos (by omega), bindS e3']
     by_cases hy1 : y < 1
     ·rw [if_pos hy1, bindS rfl, if_pos rfl, ret_some, vq_r]; exact .inl rfl
     ·rw [if_neg hy1, bindS e3', bindS rfl]
      by_cases hy2 : (1099511627776 : Int) < y
      ·rw [if_pos (by simpa using hy2), ret_some, vq_r]; exact .inl rfl
      ·rw [if_neg (by simpa using hy2)]
       have inner : Ret (loop (sparseref18_CheckWeighted_l57 ed (v : Int) adj vx) 0) (fun o => o = .inr () ∨ (o = .inl () ∧ (∀ x, x ∈ e → Wg x) ∧ Sy adj ed v l e)) := by
        refine ret_loop l.length (fun k (t : Int) => t = (k : Int) ∧ (∀ x, x ∈ e.take k → Wg x) ∧ ∀ (j : Nat) u x, j < k → l[j]? = some u → e[j]? = some x → ∃ l' e', ∃ k' : Nat, adj[u.toNat]? = some l' ∧ ed[u.toNat]? = some e' ∧ l'[k']? = some (v : Int) ∧ e'[k']? = some x) ⟨rfl, by simp, fun j u x hj => by omega⟩ ?_
        rintro k t hk ⟨rfl, hW, hJ⟩
        unfold sparseref18_CheckWeighted_l57
        rw [bindS e2']
        by_cases hkl : k < l.length
        ·obtain ⟨u, hu⟩ : ∃ u, l[k]? = some u := ⟨l[k], by simp [hkl]⟩
         obtain ⟨x, hx⟩ : ∃ x, e[k]? = some x := ⟨e[k]'(by omega), by simp [show k < e.length by omega]⟩
         have hur := hG.rng v l u e1 (mem_get hu)
         obtain ⟨l', f1, hm⟩ := hG.sym v l u e1 (mem_get hu)
         obtain ⟨k', f3⟩ := at_mem hm
         obtain ⟨_, e', _, f2⟩ := row_of hel (v := u.toNat) (by omega)
         have hle' := hA u.toNat l' e' (by omega) f1 f2
         have hk' := (List.getElem?_eq_some_iff.1 f3).1
         obtain ⟨z, f4⟩ : ∃ z, e'[k']? = some z := ⟨e'[k']'(by omega), by simp [show k' < e'.length by omega]⟩
         have g1 : getI l (k : Int) = some u := hu
         have g2 : getI e (k : Int) = some x := hx
         have g7 := redge_ok (vx := vx) (hG.asc _ _ f1) f1 f2 (by have := hG.len f1; omega) f3 f4
         rw [show ((u.toNat : Nat) : Int) = u by omega] at g7
         have hw : wa .i64 (k : Int) 1 = ((k + 1 : Nat) : Int) := wa1 (by omega)
         rw [if_pos (by omega), bindS e2', bindS g2]
         by_cases hx1 : x < 1
         ·rw [if_pos hx1, bindS rfl, if_pos rfl, bindS rfl, if_pos rfl, ret_some, vq_r]; exact .inl rfl
         ·rw [if_neg hx1, bindS rfl]
          by_cases hx2 : (1099511627776 : Int) < x
          ·rw [if_pos (by simpa using hx2), bindS rfl, if_pos rfl, ret_some, vq_r]; exact .inl rfl
          ·rw [if_neg (by simpa using hx2), bindS e1', bindS g1, bindS g7, bindS rfl]
           by_cases hxy : x = z
           ·subst hxy
            rw [if_neg (by simp), hw, ret_some, vq_l]
            refine ⟨hkl, rfl, fun a ha => ?_, fun j u' x' hj h1 h2 => ?_⟩
            ·rw [tks hx, List.mem_append, List.mem_singleton] at ha
             rcases ha with ha | rfl
             ·exact hW a ha
             ·exact ⟨by omega, by omega⟩
            ·by_cases hjk : j < k
             ·exact hJ j u' x' hjk h1 h2
             ·have : j = k := by omega
              subst this
              rw [hu] at h1; rw [hx] at h2
              obtain rfl := Option.some.inj h1
              obtain rfl := Option.some.inj h2
              exact ⟨l', e', k', f1, f2, f3, f4⟩
           ·rw [if_pos (by simpa using hxy), ret_some, vq_r]; exact .inl rfl
        ·rw [if_neg (by omega), ret_some, vq_r]
         rw [take_all (by omega)] at hW
         exact .inr ⟨rfl, hW, fun j u x h1 h2 => hJ j u x (by have := (List.getElem?_eq_some_iff.1 h1).1; omega) h1 h2⟩
       obtain ⟨o, o1, o2⟩ := inner
       rw [bindS o1]
       rcases o2 with rfl | ⟨rfl, hS⟩
       ·simp only; rw [ret_some, vq_r]; exact .inl rfl
       ·simp only
        rw [hw, ret_some, vq_l]
        refine ⟨hkl, rfl, fun w l' e' y' hv h1 h2 h3 => ?_⟩
        by_cases hvk : w < v
        ·exact hI w l' e' y' hvk h1 h2 h3
        ·have : w = v := by omega
         subst this
         rw [e1] at h1; rw [e2] at h2; rw [e3] at h3
         obtain rfl := Option.some.inj h1
         obtain rfl := Option.some.inj h2
         obtain rfl := Option.some.inj h3
         exact ⟨⟨by omega, by omega⟩, hS⟩
    ·rw [if_neg (by omega), ret_some, vq_r]
     exact .inr ⟨rfl, fun v l e y hv => hI v l e y (by omega)⟩
   obtain ⟨o, o1, o2⟩ := p43
   rw [bindS o1]
   rcases o2 with rfl | ⟨rfl, hS⟩
   ·simp only; rw [ret_some]; exact .inl rfl
   ·simp only; rw [ret_some]
    have lt : ∀ {v : Nat} {l : List Int}, adj[v]? = some l → v < adj.length := fun h => (List.getElem?_eq_some_iff.1 h).1
    have vy : ∀ v, v < adj.length → ∃ y, vx[v]? = some y := fun v hv => ⟨vx[v]'(by omega), by simp [show v < vx.length by omega]⟩
    refine .inr ⟨rfl, hG, hvl, hel, fun y hy => ?_, fun v l e h1 h2 => hA v l e (lt h1) h1 h2, fun e he => ?_, fun v k l e u x h1 h2 h3 h4 => ?_⟩
    ·obtain ⟨v, hv⟩ := at_mem hy
     have hvn := (List.getElem?_eq_some_iff.1 hv).1
     obtain ⟨l, e, h1, h2⟩ := row_of hel (v := v) (by omega)
     exact (hS v l e y (by omega) h1 h2 hv).1
    ·obtain ⟨v, hv⟩ := at_mem he
     have hvn := (List.getElem?_eq_some_iff.1 hv).1
     obtain ⟨l, _, h1, _⟩ := row_of hel (v := v) (by omega)
     obtain ⟨y, hy⟩ := vy v (by omega)
     exact (hS v l e y (by omega) h1 hv hy).2.1
    ·obtain ⟨y, hy⟩ := vy v (lt h1)
     exact (hS v l e y (lt h1) h1 h2 hy).2.2 k u x h3 h4
 ·rw [if_pos (by simp; omega), ret_some]; exact .inl rfl

/-- both checks agree -/
theorem wchecks {adj : List (List Int)} {vx : List Int} {ed : List (List Int)} (hs : Sml adj) (hvs : vx.length ≤ 1000) (hes : ∀ e, e ∈ ed → e.length ≤ 1000) :
  ∃ e, dissect_CheckWeighted adj vx ed = some e ∧ sparseref18_CheckWeighted adj vx ed = some e ∧ ((e = 0 ∧ Wt adj vx ed ∧ adj.length ≤ 200) ∨ e ≠ 0) := by
 obtain ⟨e, g1, g2, ⟨rfl, hG, hn⟩ | he⟩ := gchecks hs
 ·obtain ⟨a, a1, a2⟩ := pcheck_cases hG hn hvs hes
  obtain ⟨b, b1, b2⟩ := rcheck_cases (vx := vx) hG hn hes
  have both : Wt adj vx ed → a = 0 ∧ b = 0 := by
   intro hW
   have c1 := checkW_ok hW hn
   rw [a1] at c1
   obtain ⟨c2, c3, hT⟩ := hW.canon (B := 1099511627776) (by omega) (fun e he x hx => (hW.er e he x hx).2)
   generalize wof adj ed = W at c2 c3 hT
   generalize hk : adj.length = n at *
   subst c2
   subst c3
   have c4 := rcheckW_ok hn hT hW
   rw [b1] at c4
   exact ⟨Option.some.inj c1, Option.some.inj c4⟩
  rcases a2 with rfl | ⟨rfl, hW⟩
  ·rcases b2 with rfl | ⟨rfl, hW⟩
   ·exact ⟨1, a1, b1, .inr (by omega)⟩
   ·have := both hW; omega
  ·obtain ⟨_, rfl⟩ := both hW
   exact ⟨0, a1, b1, .inl ⟨rfl, hW, hn⟩⟩
 ·refine ⟨e, ?_, ?_, .inr he⟩
  ·unfold dissect_CheckWeighted; rw [bindS g1, if_neg he]
  ·unfold sparseref18_CheckWeighted; rw [bindS g2, if_neg he]
end Pd
/- Lists of any kind: mates, sides; the paper's cut. -/
namespace Pd
open Pl Sx Go M Vc Pu
set_option linter.unusedVariables false
set_option linter.unusedSimpArgs false
set_option maxHeartbeats 4000000

theorem Ml.snoc {n : Nat} {m : List Int} (hl : m.length = n) : Ml n m ↔ ∀ (v : Nat) u, v < n → m[v]? = some u → (0 ≤ u ∧ u < n) ∧ m[u.toNat]? = some (v : Int) :=
 ⟨fun h v u _ hu => h.mate v u hu, fun h => ⟨hl, fun v u hu => h v u (by have := (List.getElem?_eq_some_iff.1 hu).1; omega) hu⟩⟩

theorem mates_p {n : Nat} {m : List Int} (hl : m.length = n) (hn : n ≤ 200) : Ret (dissect_mates m) (fun b => (b = true ∧ Ml n m) ∨ (b = false ∧ ¬ Ml n m)) := by
 unfold dissect_mates
 rw [ret_bind]
 refine ret_call (P := fun o => (o = .inl () ∧ Ml n m) ∨ (o = .inr () ∧ ¬ Ml n m)) ?_ ?_
 ·rw [Ml.snoc hl]
  refine ret_loop n (fun k (t : Int) => t = (k : Int) ∧ ∀ (v : Nat) u, v < k → m[v]? = some u → (0 ≤ u ∧ u < n) ∧ m[u.toNat]? = some (v : Int)) ⟨rfl, fun v u hv => by omega⟩ ?_
  rintro k t hk ⟨rfl, hI⟩
  unfold dissect_mates_l5
  by_cases hkn : k < n
  ·obtain ⟨u, hu⟩ : ∃ u, m[k]? = some u := ⟨m[k]'(by omega), by simp [show k < m.length by omega]⟩
   have e1 : getI m (k : Int) = some u := hu
   have hw : wa .i64 (k : Int) 1 = ((k + 1 : Nat) : Int) := wa1 (by omega)
   rw [if_pos (by omega), bindS e1]
   by_cases hr : 0 ≤ u ∧ u < n
   ·obtain ⟨x, hx⟩ : ∃ x, m[u.toNat]? = some x := ⟨m[u.toNat]'(by omega), by simp [show u.toNat < m.length by omega]⟩
    have e2 : getI m u = some x := getI_of hr.1 hx
    rw [if_neg (by simp; omega), bindS e2, bindS rfl]
    by_cases hxk : x = (k : Int)
    ·rw [if_neg (by simpa using hxk), hw, ret_some, vq_l]
     refine ⟨hkn, rfl, fun v u' hv h1 => ?_⟩
     by_cases hvk : v < k
     ·exact hI v u' hvk h1
     ·have : v = k := by omega
      subst this
      rw [hu] at h1
      obtain rfl := Option.some.inj h1
      exact ⟨hr, by rw [hx, hxk]⟩
    ·rw [if_pos (by simpa using hxk), ret_some, vq_r]
     refine .inr ⟨rfl, fun h => hxk ?_⟩
     have := (h k u hkn hu).2
     rw [hx] at this
     exact Option.some.inj this
   ·rw [if_pos (by simp; omega), bindS rfl, if_pos rfl, ret_some, vq_r]
    exact .inr ⟨rfl, fun h => hr (h k u hkn hu).1⟩
  ·rw [if_neg (by omega), ret_some, vq_r]
   have : k = n := by omega
   subst this
   exact .inl ⟨rfl, hI⟩
 ·rintro o (⟨rfl, h⟩ | ⟨rfl, h⟩)
  ·rw [ret_some]; exact .inl ⟨rfl, h⟩
  ·rw [ret_some]; exact .inr ⟨rfl, h⟩

theorem rmates_p {n : Nat} {m vx : List Int} (hl : m.length = n) (hv : vx.length = n) (hn : n ≤ 200) : Ret (loop (sparseref18_Coarsen_l5 vx m) 0) (fun o => (o = .inl () ∧ Ml n m) ∨ (o = .inr () ∧ ¬ Ml n m)) := by
 rw [Ml.snoc hl]
 refine ret_loop n (fun k (t : Int) => t = (k : Int) ∧ ∀ (v : Nat) u, v < k → m[v]? = some u → (0 ≤ u ∧ u < n) ∧ m[u.toNat]? = some (v : Int)) ⟨rfl, fun v u hv => by omega⟩ ?_
 rintro k t hk ⟨rfl, hI⟩
 unfold sparseref18_Coarsen_l5
 by_cases hkn : k < n
 ·obtain ⟨u, hu⟩ : ∃ u, m[k]? = some u := ⟨m[k]'(by omega), by simp [show k < m.length by omega]⟩
  have e1 : getI m (k : Int) = some u := hu
  have hw : wa .i64 (k : Int) 1 = ((k + 1 : Nat) : Int) := wa1 (by omega)
  rw [if_pos (by omega), bindS e1]
  by_cases hr0 : u < 0
  ·rw [if_pos hr0, bindS rfl, if_pos rfl, bindS rfl, if_pos rfl, ret_some, vq_r]
   exact .inr ⟨rfl, fun h => by have := (h k u hkn hu).1; omega⟩
  ·rw [if_neg hr0, bindS e1, bindS rfl]
   by_cases hr1 : (vx.length : Int) ≤ u
   ·rw [if_pos (by simpa using hr1), bindS rfl, if_pos rfl, ret_some, vq_r]
    exact .inr ⟨rfl, fun h => by have := (h k u hkn hu).1; omega⟩
   ·obtain ⟨x, hx⟩ : ∃ x, m[u.toNat]? = some x := ⟨m[u.toNat]'(by omega), by simp [show u.toNat < m.length by omega]⟩
    have e2 : getI m u = some x := getI_of (by omega) hx
    rw [if_neg (by simpa using hr1), bindS e1, bindS e2, bindS rfl]
    by_cases hxk : x = (k : Int)
    ·rw [if_neg (by simpa using hxk), hw, ret_some, vq_l]
     refine ⟨hkn, rfl, fun v u' hv h1 => ?_⟩
     by_cases hvk : v < k
     ·exact hI v u' hvk h1
     ·have : v = k := by omega
      subst this
      rw [hu] at h1
      obtain rfl := Option.some.inj h1
      exact ⟨by omega, by rw [hx, hxk]⟩
    ·rw [if_pos (by simpa using hxk), ret_some, vq_r]
     refine .inr ⟨rfl, fun h => hxk ?_⟩
     have := (h k u hkn hu).2
     rw [hx] at this
     exact Option.some.inj this
 ·rw [if_neg (by omega), ret_some, vq_r]
  have : k = n := by omega
  subst this
  exact .inl ⟨rfl, hI⟩

/-! ### cuts -/
def cut2 (n : Nat) (W : Nat → Nat → Int) (s : Nat → Int) : Int := sm n fun v => sm n fun u => if s v = 0 ∧ s u = 1 then W v u else 0
theorem cut2_eq {n : Nat} {W : Nat → Nat → Int} {B : Int} (hT : Tw n W B) {s : Nat → Int} (h01 : ∀ v, v < n → s v = 0 ∨ s v = 1) : cut2 n W s = cut n W s := by
 have h1 := cut_twice hT s
 have h2 : (sm n fun v => sm n fun u => if s u = s v then 0 else W v u) = cut2 n W s + cut2 n W s := by
  have h3 : cut2 n W s = sm n fun v => sm n fun u => if s u = 0 ∧ s v = 1 then W v u else 0 := by
   unfold cut2
   rw [sm_swap]
   refine sm_congr fun u hu => sm_congr fun v hv => ?_
   rw [hT.sym v u hv hu]
  have e : ∀ (a b c d : Int), b = c → a = b + c → a = b + b := by intros; omega
  refine e _ _ _ 0 h3 ?_
  unfold cut2
  rw [← sm_add]
  refine sm_congr fun v hv => ?_
  rw [← sm_add]
  refine sm_congr fun u hu => ?_
  rcases h01 v hv with hv0 | hv0 <;> rcases h01 u hu with hu0 | hu0 <;> rw [hv0, hu0] <;> simp
 omega
end Pd
/- The paper's cut; bisections that may fail; small graphs. -/
namespace Pd
open Pl Sx Go M Vc Pu
set_option linter.unusedVariables false
set_option linter.unusedSimpArgs false
set_option maxHeartbeats 4000000

theorem S01.snocE {l : List Int} {x : Int} : S01 (l ++ [x]) ↔ S01 l ∧ (x = 0 ∨ x = 1) := by
 constructor
 ·intro h
  exact ⟨fun y hy => h y (by simp [hy]), h x (by simp)⟩
 ·rintro ⟨h1, h2⟩ y hy
  rcases List.mem_append.1 hy with hy | hy
  ·exact h1 y hy
  ·rw [List.mem_singleton.1 hy]; exact h2

theorem has_p {side : List Int} (hl : side.length ≤ 100000) : Ret (slices_ContainsFunc_int_v3 side) (fun b => (b = true ∧ ¬ S01 side) ∨ (b = false ∧ S01 side)) := by
 by_cases h : S01 side
 ·exact ⟨false, s01_ok h hl, .inr ⟨rfl, h⟩⟩
 ·refine ⟨true, ?_, .inl ⟨rfl, h⟩⟩
  have : Ret (slices_IndexFunc_int_v3 side) (fun i => 0 ≤ i) := by
   unfold slices_IndexFunc_int_v3
   rw [ret_bind]
   refine ret_call (P := fun o => ∃ i : Int, o = .inr i ∧ 0 ≤ i) ?_ (by rintro _ ⟨i, rfl, hi⟩; simp only [ret_some]; exact hi)
   refine ret_loop side.length (fun k (t : Int) => t = (k : Int) ∧ S01 (side.take k)) ⟨rfl, fun x hx => by simp at hx⟩ ?_
   rintro k t hk ⟨rfl, hI⟩
   unfold slices_IndexFunc_int_v3_l1 dissect_Cut_1
   by_cases hkl : k < side.length
   ·obtain ⟨x, hx⟩ : ∃ x, side[k]? = some x := ⟨side[k], by simp [hkl]⟩
    have e1 : getI side (k : Int) = some x := hx
    have e5 : (k : Int) < (side.length : Int) := by omega
    have hw : wa .i64 (k : Int) 1 = ((k + 1 : Nat) : Int) := wa1 (by omega)
    by_cases hx01 : x = 0 ∨ x = 1
    ·have e6 : (!(decide (x = 0)) && !(decide (x = 1))) = false := by
      rcases hx01 with h | h <;> simp [h]
     simp only [ret_bind, ret_if, ret_get, ret_set, ret_app, ret_mkL, ret_sli, ret_wr, ret_wq, ret_some, vq_l, vq_r, Int.toNat_natCast, if_true, if_false, obs, decide_false, decide_true, Bool.false_eq_true, Bool.not_true, Bool.not_false, not_true_eq_false, not_false_eq_true, true_implies, false_implies, reduceCtorEq, true_and, and_true, false_and, or_false, false_or, implies_true, ret_of e1, e5, e6, hw]
     exact ⟨hkl, by rw [tks hx]; exact S01.snocE.2 ⟨hI, hx01⟩⟩
    ·have e6 : (!(decide (x = 0)) && !(decide (x = 1))) = true := by simp; omega
     simp only [ret_bind, ret_if, ret_get, ret_set, ret_app, ret_mkL, ret_sli, ret_wr, ret_wq, ret_some, vq_l, vq_r, Int.toNat_natCast, if_true, if_false, obs, decide_false, decide_true, Bool.false_eq_true, Bool.not_true, Bool.not_false, not_true_eq_false, not_false_eq_true, true_implies, false_implies, reduceCtorEq, true_and, and_true, false_and, or_false, false_or, implies_true, ret_of e1, e5, e6, hw]
     exact ⟨_, rfl, by omega⟩
   ·rw [take_all (by omega)] at hI
    exact absurd hI h
  obtain ⟨i, h1, h2⟩ := this
  unfold slices_ContainsFunc_int_v3
  rw [bindS h1]
  simp; omega

theorem rhas_p {side : List Int} (hl : side.length ≤ 100000) : Ret (loop (sparseref18_Cut_l3 side) 0) (fun o => (o = .inr () ∧ ¬ S01 side) ∨ (o = .inl () ∧ S01 side)) := by
 refine ret_loop side.length (fun k (t : Int) => t = (k : Int) ∧ S01 (side.take k)) ⟨rfl, fun x hx => by simp at hx⟩ ?_
 rintro k t hk ⟨rfl, hI⟩
 unfold sparseref18_Cut_l3
 by_cases hkl : k < side.length
 ·obtain ⟨x, hx⟩ : ∃ x, side[k]? = some x := ⟨side[k], by simp [hkl]⟩
  have e1 : getI side (k : Int) = some x := hx
  have hw : wa .i64 (k : Int) 1 = ((k + 1 : Nat) : Int) := wa1 (by omega)
  rw [if_pos (by omega), bindS e1]
  by_cases h0 : x = 0
  ·rw [if_pos h0, bindS rfl, if_neg (by simp), hw, ret_some, vq_l]
   exact ⟨hkl, rfl, by rw [tks hx]; exact S01.snocE.2 ⟨hI, .inl h0⟩⟩
  ·rw [if_neg h0, bindS e1, bindS rfl]
   by_cases h1 : x = 1
   ·rw [if_neg (by simpa using h1), hw, ret_some, vq_l]
    exact ⟨hkl, rfl, by rw [tks hx]; exact S01.snocE.2 ⟨hI, .inr h1⟩⟩
   ·rw [if_pos (by simpa using h1), ret_some, vq_r]
    exact .inl ⟨rfl, fun h => by have := h x (mem_get hx); omega⟩
 ·rw [if_neg (by omega), ret_some, vq_r]
  rw [take_all (by omega)] at hI
  exact .inr ⟨rfl, hI⟩

theorem rcut_row {n : Nat} (hn : n ≤ 200) {W : Nat → Nat → Int} {B : Int} (hT : Tw n W B) (hB : 0 ≤ B ∧ B ≤ 1099511627776) {side : List Int} (hs : side.length = n) {v : Nat} (hv : v < n) {c : Int} (hc : 0 ≤ c ∧ c ≤ 50000 * 1099511627776) :
  loop (sparseref18_Cut_l23 (ced n W) (v : Int) side (cadj n W)) (c, 0) = some (c + sm n fun u => if sd side v = 0 ∧ sd side u = 1 then W v u else 0) := by
 have hnl := nbs_len (n := n) (f := W v)
 have hll : ((nbs n (W v)).map (W v)).length = (nbs n (W v)).length := by simp
 have hsum : (sm n fun u => if sd side v = 0 ∧ sd side u = 1 then W v u else 0) = ((nbs n (W v)).map fun u => if sd side v = 0 ∧ sd side u = 1 then W v u else 0).sum := by
  rw [nbs_sum]
  refine sm_congr fun u hu => ?_
  by_cases h : 0 < W v u
  ·rw [if_pos h]
  ·have := hT.nn v u hv hu
   rw [if_neg h]; split <;> omega
 rw [hsum]
 refine Ret.eq ?_
 refine ret_loop (nbs n (W v)).length (fun k (t : Int × Int) => t.2 = k ∧ t.1 = c + (((nbs n (W v)).take k).map fun u => if sd side v = 0 ∧ sd side u = 1 then W v u else 0).sum ∧ 0 ≤ (((nbs n (W v)).take k).map fun u => if sd side v = 0 ∧ sd side u = 1 then W v u else 0).sum ∧ (((nbs n (W v)).take k).map fun u => if sd side v = 0 ∧ sd side u = 1 then W v u else 0).sum ≤ k * B) ⟨rfl, by simp, by simp, by simp⟩ ?_
 rintro k ⟨t, i⟩ hk ⟨hi, h1, h2, h3⟩
 simp only at h1 hi
 subst hi
 subst h1
 unfold sparseref18_Cut_l23 sparseref18_Cut_j25
 have e6 : getI (ced n W) (v : Int) = some ((nbs n (W v)).map (W v)) := ced_get hv
 simp only
 rw [bindS e6]
 by_cases hkl : k < (nbs n (W v)).length
 ·obtain ⟨u, hu⟩ : ∃ u, (nbs n (W v))[k]? = some u := ⟨(nbs n (W v))[k], by simp [hkl]⟩
  obtain ⟨hun, hpos⟩ := nbs_mem.1 (List.mem_of_getElem? hu)
  have hwr := hT.nn v u hv hun
  have ea : getI (cadj n W) (v : Int) = some ((nbs n (W v)).map Int.ofNat) := cadj_get hv
  have e0 : getI ((nbs n (W v)).map Int.ofNat) (k : Int) = some (u : Int) := by rw [getI_cast, List.getElem?_map, hu]; rfl
  have e1 : getI side (u : Int) = some (sd side u) := sd_at hs hun
  have e2 : getI side (v : Int) = some (sd side v) := sd_at hs hv
  have e7 : getI ((nbs n (W v)).map (W v)) (k : Int) = some (W v u) := by rw [getI_cast, List.getElem?_map, hu]; rfl
  have hw : wa .i64 (k : Int) 1 = ((k + 1 : Nat) : Int) := wa1 (by omega)
  have gk : (k : Int) * B ≤ 200 * 1099511627776 := Int.le_trans (Int.mul_le_mul_of_nonneg_right (show (k : Int) ≤ 200 by omega) hB.1) (Int.mul_le_mul_of_nonneg_left hB.2 (by omega))
  have hk1 : ((k + 1 : Nat) : Int) * B = k * B + B := by rw [Int.natCast_add, Int.add_mul]; omega
  have hts : (((nbs n (W v)).take (k + 1)).map fun u => if sd side v = 0 ∧ sd side u = 1 then W v u else 0).sum = (((nbs n (W v)).take k).map fun u => if sd side v = 0 ∧ sd side u = 1 then W v u else 0).sum + (if sd side v = 0 ∧ sd side u = 1 then W v u else 0) := by
   rw [tks hu, List.map_append, List.sum_append]; simp
  rw [if_pos (by omega), bindS e2]
  have step : ∀ b : Bool, (b = true ↔ sd side v = 0 ∧ sd side u = 1) → Ret (if b = true then (getI (ced n W) (v : Int)).bind fun x258 => (getI x258 (k : Int)).bind fun x260 => some (.inl (wa .i64 (c + (((nbs n (W v)).take k).map fun u => if sd side v = 0 ∧ sd side u = 1 then W v u else 0).sum) x260, wa .i64 (k : Int) 1)) else some (.inl (c + (((nbs n (W v)).take k).map fun u => if sd side v = 0 ∧ sd side u = 1 then W v u else 0).sum, wa .i64 (k : Int) 1)))
    (VQ (fun t' : Int × Int => k < (nbs n (W v)).length ∧ t'.2 = ((k + 1 : Nat) : Int) ∧ t'.1 = c + (((nbs n (W v)).take (k + 1)).map fun u => if sd side v = 0 ∧ sd side u = 1 then W v u else 0).sum ∧ 0 ≤ (((nbs n (W v)).take (k + 1)).map fun u => if sd side v = 0 ∧ sd side u = 1 then W v u else 0).sum ∧ (((nbs n (W v)).take (k + 1)).map fun u => if sd side v = 0 ∧ sd side u = 1 then W v u else 0).sum ≤ ((k + 1 : Nat) : Int) * B) (fun y : Int => y = c + ((nbs n (W v)).map fun u => if sd side v = 0 ∧ sd side u = 1 then W v u else 0).sum)) := by
   intro b hb
   rw [hts, hk1]
   generalize (((nbs n (W v)).take k).map fun u => if sd side v = 0 ∧ sd side u = 1 then W v u else 0).sum = S at *
   by_cases hc2 : sd side v = 0 ∧ sd side u = 1
   ·have hw2 : wa .i64 (c + S) (W v u) = c + S + W v u := wa_i (by omega) (by omega)
    rw [if_pos (hb.2 hc2), bindS e6, bindS e7, hw2, hw, ret_some, vq_l, if_pos hc2]
    exact ⟨hkl, rfl, by omega, by omega, by omega⟩
   ·rw [if_neg (fun h => hc2 (hb.1 h)), hw, ret_some, vq_l, if_neg hc2]
    exact ⟨hkl, rfl, by omega, by omega, by omega⟩
  by_cases hv0 : sd side v = 0
  ·rw [if_pos hv0, bindS ea, bindS e0, bindS e1, bindS rfl]
   exact step _ (by simp [hv0])
  ·rw [if_neg hv0, bindS rfl]
   exact step _ (by simp [hv0])
 ·rw [if_neg (by omega), ret_some, vq_r, take_all (by omega)]

theorem rcut_ok {n : Nat} (hn : n ≤ 200) {W : Nat → Nat → Int} {B : Int} (hT : Tw n W B) (hB : 0 ≤ B ∧ B ≤ 1099511627776) {side : List Int} (hs : side.length = n) (h01 : S01 side) :
  loop (sparseref18_Cut_l18 side (ced n W) (cadj n W)) (0, 0) = some (cut n W (sd side)) := by
 rw [← cut2_eq hT (sd01 hs h01)]
 have hb : ∀ k, k ≤ n → 0 ≤ (sm k fun v => sm n fun u => if sd side v = 0 ∧ sd side u = 1 then W v u else 0) ∧ (sm k fun v => sm n fun u => if sd side v = 0 ∧ sd side u = 1 then W v u else 0) ≤ 50000 * 1099511627776 := by
  intro k hk
  refine ⟨sm_nonneg fun v hv => sm_nonneg fun u hu => ?_, ?_⟩
  ·have := hT.nn v u (by omega) hu; split <;> omega
  ·have h1 : (sm k fun v => sm n fun u => if sd side v = 0 ∧ sd side u = 1 then W v u else 0) ≤ k * (n * B) := sm_bound fun v hv => sm_bound fun u hu => by
    have := hT.nn v u (by omega) hu
    show (if sd side v = 0 ∧ sd side u = 1 then W v u else 0) ≤ B
    split <;> omega
   rw [← Int.mul_assoc, ← Int.natCast_mul] at h1
   have hkn : k * n ≤ 200 * 200 := Nat.mul_le_mul (by omega) hn
   have h2 : ((k * n : Nat) : Int) * B ≤ 50000 * 1099511627776 := Int.le_trans (Int.mul_le_mul_of_nonneg_right (show ((k * n : Nat) : Int) ≤ 50000 by omega) hB.1) (Int.mul_le_mul_of_nonneg_left hB.2 (by omega))
   omega
 refine Ret.eq ?_
 refine ret_loop n (fun k (t : Int × Int) => t = (sm k fun v => sm n fun u => if sd side v = 0 ∧ sd side u = 1 then W v u else 0, (k : Int))) rfl ?_
 rintro k _ hk rfl
 unfold sparseref18_Cut_l18
 simp only
 by_cases hkn : k < n
 ·have hw : wa .i64 (k : Int) 1 = ((k + 1 : Nat) : Int) := wa1 (by omega)
  rw [if_pos (by omega), bindS (rcut_row hn hT hB hs hkn (hb k hk)), hw, ret_some, vq_l]
  exact ⟨hkn, rfl⟩
 ·have : k = n := by omega
  subst this
  rw [if_neg (by omega), ret_some, vq_r]
  rfl

/-- both cuts, of any sides -/
theorem cuts_same {n : Nat} (hn : n ≤ 200) {W : Nat → Nat → Int} {B : Int} (hT : Tw n W B) (hB : 0 ≤ B ∧ B ≤ 1099511627776) {vx : List Int} (hW : Wt (cadj n W) vx (ced n W)) {l : List Int} (hl : l.length ≤ 1000) :
  ∃ r, dissect_Cut (cadj n W) vx (ced n W) l = some r ∧ sparseref18_Cut (cadj n W) vx (ced n W) l = some r := by
 have hvl := hW.vl
 rw [cadj_len] at hvl
 have hc := checkW_ok hW (by rw [cadj_len]; exact hn)
 have hr := rcheckW_ok hn hT hW
 by_cases hll : l.length = n
 ·obtain ⟨b, b1, b2⟩ := has_p (side := l) (by omega)
  obtain ⟨o, o1, o2⟩ := rhas_p (side := l) (by omega)
  by_cases h01 : S01 l
  ·obtain rfl : o = .inl () := by
    rcases o2 with ⟨_, h⟩ | ⟨h, _⟩
    ·exact absurd h01 h
    ·exact h
   refine ⟨(cut n W (sd l), 0), cut_ok hn hT hB hW hll h01, ?_⟩
   unfold sparseref18_Cut
   rw [bindS hr, if_pos rfl, if_pos (by omega), bindS o1]
   simp only
   rw [bindS (rcut_ok hn hT hB hll h01)]
  ·obtain rfl : o = .inr () := by
    rcases o2 with ⟨h, _⟩ | ⟨_, h⟩
    ·exact h
    ·exact absurd h h01
   obtain rfl : b = true := by
    rcases b2 with ⟨h, _⟩ | ⟨_, h⟩
    ·exact h
    ·exact absurd h h01
   refine ⟨(0, 1), ?_, ?_⟩
   ·unfold dissect_Cut
    rw [bindS hc, if_pos rfl, if_pos (by omega), bindS b1, if_pos rfl]
   ·unfold sparseref18_Cut
    rw [bindS hr, if_pos rfl, if_pos (by omega), bindS o1]
 ·refine ⟨(0, 2), ?_, ?_⟩
  ·unfold dissect_Cut
   rw [bindS hc, if_pos rfl, if_neg (by omega)]
  ·unfold sparseref18_Cut
   rw [bindS hr, if_pos rfl, if_neg (by omega)]
end Pd
/- DissectWeighted: any weighted graph. -/
namespace Pd
open Pl Sx Go M Vc Pu
set_option linter.unusedVariables false
set_option linter.unusedSimpArgs false
set_option maxHeartbeats 4000000

structure Ch (n : Nat) (W : Nat → Nat → Int) (vx m vs to : List Int) : Prop where
 kn : vs.length ≤ n
 tl : to.length = n
 tr : ∀ v, v < n → ∃ a : Nat, to[v]? = some (a : Int) ∧ a < vs.length
 tw : Tw vs.length (cw (tabS n W to n)) 1099511627776
 vv : Vw vs.length vs
 p : dissect_coarsen (cadj n W) vx (ced n W) m = some (cadj vs.length (cw (tabS n W to n)), vs, ced vs.length (cw (tabS n W to n)), to, true)
 r : sparseref18_Coarsen (cadj n W) vx (ced n W) m = some (cadj vs.length (cw (tabS n W to n)), vs, ced vs.length (cw (tabS n W to n)), to, 0)

theorem coarse_or {n : Nat} (hn : n ≤ 200) {W : Nat → Nat → Int} (hT : Tw n W 1099511627776) {vx m : List Int} (hv : Vw n vx) (hM : Ml n m) :
  (∃ vs to, Ch n W vx m vs to) ∨ (dissect_coarsen (cadj n W) vx (ced n W) m = some ([], [], [], [], false) ∧ sparseref18_Coarsen (cadj n W) vx (ced n W) m = some ([], [], [], [], 3)) := by
 have hW := canon_wt hT hv.len hv.wg
 have hrc := rcheckW_ok hn hT hW
 obtain ⟨vs, to, hC, hpos, k1, k2⟩ := coarsen2_ok hn hT (by omega) hv.len hv.wg hM hrc
 by_cases hP : OkE vs.length (cw (tabS n W to n)) ∧ ∀ x, x ∈ vs → Wg x
 ·rw [if_pos hP] at k1 k2
  exact .inl ⟨vs, to, hC.mg.vl, hC.mg.tl, hC.mg.tr, cw_tw hT (fun a b ha hb => ⟨(hC.tb a b).1, hP.1 a b ha hb⟩) (by omega), ⟨rfl, hP.2⟩, k1, k2⟩
 ·rw [if_neg hP] at k1 k2
  exact .inr ⟨k1, k2⟩

theorem bisect3_ok : ∀ (n : Nat), n ≤ 30 → ∀ {W : Nat → Nat → Int} (_ : Tw n W 1099511627776) {vx : List Int} (_ : Vw n vx) (k k' : Nat), n < k → n < k' →
  ∃ o b, dissect_bisect k (cadj n W) vx (ced n W) = some (o, b) ∧ sparseref18_Bisect k' (cadj n W) vx (ced n W) = some (o, if b = true then 0 else 3) ∧ (b = true → o.length = n ∧ S01 o) ∧ (b = false → o = []) := by
 intro n
 induction n using Nat.strongRecOn with
 | ind n ih =>
 intro hn W hT vx hv k k' hk hk'
 obtain ⟨j, rfl⟩ : ∃ j, k = j + 1 := ⟨k - 1, by omega⟩
 obtain ⟨j', rfl⟩ : ∃ j', k' = j' + 1 := ⟨k' - 1, by omega⟩
 have hvl := hv.len
 have hW := canon_wt hT hv.len hv.wg
 have hcl : (cadj n W).length = n := cadj_len
 have hrc := rcheckW_ok (by omega) hT hW
 obtain ⟨s, g1, g2, g3, g4⟩ := grown_ok hW (by omega)
 rw [hcl] at g3
 obtain ⟨m, m1, m2, hM⟩ := pMatch_ok hW (by omega)
 have m3 := rmatch_ok hW (by omega) hrc m1
 obtain ⟨o, r1, r2, r3, r4⟩ := refine_ok (by omega) hT (by omega) hvl g3 g4
 have r5 := rrefine_ok (by omega) hT (by omega) hv g3 g4 r1
 rw [bisect_succ', rbisect_succ]
 unfold dissect_bisect_body sparseref18_Bisect_body dissect_bisect_j5 dissect_bisect_j8 dissect_bisect_j5
 rw [bindS g1, bindS m3]
 by_cases h8 : n ≤ 8
 ·refine ⟨o, true, ?_, ?_, fun _ => ⟨r2, r3⟩, fun h => by cases h⟩
  ·rw [if_neg (by omega), bindS r1]
  ·simp only [if_true]
   rw [if_pos (by omega), bindS g2, bindS r5]
 ·rcases coarse_or (by omega) hT hv (hM.ml cadj_len) with ⟨vs, to, hc⟩ | ⟨f1, f2⟩
  ·have hkn := hc.kn
   by_cases hlt : vs.length < n
   ·obtain ⟨cs, b, c1, c2, c3, c5⟩ := ih vs.length hlt (by omega) hc.tw hc.vv j j' (by omega) (by omega)
    cases b with
    | true =>
     obtain ⟨c3, c4⟩ := c3 rfl
     have htt : ∀ u, u < n → tt to u < vs.length := by
      intro u hu
      obtain ⟨a, a1, a2⟩ := hc.tr u hu
      rw [tt_get a1]
      omega
     have f01 := fineL_01 htt c3 c4
     obtain ⟨o, p1, p2, p3, p4⟩ := refine_ok (by omega) hT (by omega) hvl (fineL_len (n := n) (to := to) (cs := cs)) f01
     have p5 := rrefine_ok (by omega) hT (by omega) hv fineL_len f01 p1
     refine ⟨o, true, ?_, ?_, fun _ => ⟨p2, p3⟩, fun h => by cases h⟩
     ·rw [if_pos (by omega), bindS m1, bindS hc.p]
      simp only [if_true]
      rw [if_pos (by omega), bindS c1]
      simp only [if_true]
      rw [bindS (fine1 (by omega) rfl rfl hc.tl hc.tr c3 g3), bindS p1]
     ·simp only [if_true]
      rw [if_neg (by omega), bindS hc.r]
      simp only [if_true]
      rw [if_neg (by omega), bindS c2]
      simp only [if_true]
      rw [hvl, bindS (mkL_nat 0 n (by omega)), bindS (fine2 (by omega) hvl rfl rfl hc.tr c3 (by simp)), bindS p5]
    | false =>
     obtain rfl := c5 rfl
     refine ⟨[], false, ?_, ?_, (fun h => by cases h), fun _ => rfl⟩
     ·rw [if_pos (by omega), bindS m1, bindS hc.p]
      simp only [if_true]
      rw [if_pos (by omega), bindS c1]
      simp
     ·simp only [if_true]
      rw [if_neg (by omega), bindS hc.r]
      simp only [if_true]
      rw [if_neg (by omega), bindS c2]
      simp
   ·refine ⟨o, true, ?_, ?_, fun _ => ⟨r2, r3⟩, fun h => by cases h⟩
    ·rw [if_pos (by omega), bindS m1, bindS hc.p]
     simp only [if_true]
     rw [if_neg (by omega), bindS r1]
    ·simp only [if_true]
     rw [if_neg (by omega), bindS hc.r]
     simp only [if_true]
     rw [if_pos (by omega), bindS g2, bindS r5]
  ·refine ⟨[], false, ?_, ?_, (fun h => by cases h), fun _ => rfl⟩
   ·rw [if_pos (by omega), bindS m1, bindS f1]
    simp
   ·simp only [if_true]
    rw [if_neg (by omega), bindS f2]
    simp

/-- what a result of coarsening is like -/
def OkW (r : (List (List Int)) × (List Int) × (List (List Int)) × (List Int) × Int) : Prop := OkG r.1 ∧ r.2.1.length ≤ 1000 ∧ OkG r.2.2.1 ∧ r.2.2.2.1.length ≤ 1000

theorem coarsens_same {n : Nat} (hn : n ≤ 200) {W : Nat → Nat → Int} (hT : Tw n W 1099511627776) {vx : List Int} (hv : Vw n vx) (l : List Int) :
  ∃ r, dissect_Coarsen (cadj n W) vx (ced n W) l = some r ∧ sparseref18_Coarsen (cadj n W) vx (ced n W) l = some r ∧ OkW r := by
 have hW := canon_wt hT hv.len hv.wg
 have hc := checkW_ok hW (by rw [cadj_len]; exact hn)
 have hr := rcheckW_ok hn hT hW
 have hvl := hv.len
 have nil : ∀ e : Int, OkW ([], [], [], [], e) := fun e => ⟨okG_nil, by simp, okG_nil, by simp⟩
 by_cases hll : l.length = n
 ·obtain ⟨b, b1, b2⟩ := mates_p hll hn
  by_cases hM : Ml n l
  ·obtain rfl : b = true := by
    rcases b2 with ⟨h, _⟩ | ⟨_, h⟩
    ·exact h
    ·exact absurd hM h
   rcases coarse_or hn hT hv hM with ⟨vs, to, h⟩ | ⟨f1, f2⟩
   ·have hkn := h.kn
    have htl := h.tl
    refine ⟨_, ?_, h.r, ⟨by rw [cadj_len]; omega, fun x hx => by have := cadj_sz x hx; omega⟩, by simp only; omega, ⟨by rw [ced_len]; omega, fun x hx => by have := ced_sz x hx; omega⟩, by simp only; omega⟩
    unfold dissect_Coarsen
    rw [bindS hc, if_pos rfl, if_pos (by omega), bindS b1, if_pos rfl, bindS h.p]
    simp only [if_true]
   ·refine ⟨_, ?_, f2, nil 3⟩
    unfold dissect_Coarsen
    rw [bindS hc, if_pos rfl, if_pos (by omega), bindS b1, if_pos rfl, bindS f1]
    simp
  ·obtain rfl : b = false := by
    rcases b2 with ⟨_, h⟩ | ⟨h, _⟩
    ·exact absurd h hM
    ·exact h
   obtain ⟨o, o1, o2⟩ := rmates_p hll hvl hn
   obtain rfl : o = .inr () := by
    rcases o2 with ⟨_, h⟩ | ⟨h, _⟩
    ·exact absurd h hM
    ·exact h
   refine ⟨_, ?_, ?_, nil 130⟩
   ·unfold dissect_Coarsen
    rw [bindS hc, if_pos rfl, if_pos (by omega), bindS b1, if_neg (by simp)]
   ·unfold sparseref18_Coarsen
    rw [bindS hr, if_pos rfl, if_pos (by omega), bindS o1]
 ·refine ⟨_, ?_, ?_, nil 2⟩
  ·unfold dissect_Coarsen
   rw [bindS hc, if_pos rfl, if_neg (by omega)]
  ·unfold sparseref18_Coarsen
   rw [bindS hr, if_pos rfl, if_neg (by omega)]
end Pd
/- DissectWeighted. -/
namespace Pd
open Pl Sx Go M Vc Pu
set_option linter.unusedVariables false
set_option linter.unusedSimpArgs false
set_option maxHeartbeats 4000000

theorem smallG18_ok {adj : List (List Int)} : Ret (sparselaw18_smallGraph adj 12) (fun b => b = true → Sml adj ∧ (adj.length ≤ 200 → adj.length ≤ 30)) := by
 unfold sparselaw18_smallGraph
 by_cases h : ((decide ((12 : Int) < (adj.length : Int)) && decide ((adj.length : Int) ≤ 200)) || decide ((400 : Int) < (adj.length : Int))) = true
 ·rw [if_pos h, ret_some]; exact fun h => by cases h
 ·rw [if_neg h]
  simp only [Bool.or_eq_true, Bool.and_eq_true, decide_eq_true_eq, not_or, not_and] at h
  simp only [ret_bind]
  refine ret_call (P := fun o => o = .inl () → Sml adj ∧ (adj.length ≤ 200 → adj.length ≤ 30)) ?_ ?_
  ·refine ret_loop adj.length (fun k (t : Int) => t = k ∧ ∀ l, l ∈ adj.take k → l.length ≤ 20) ⟨rfl, by simp⟩ ?_
   rintro k _ hk ⟨rfl, hI⟩
   unfold sparselaw18_smallGraph_l3
   by_cases hkl : k < adj.length
   ·obtain ⟨x, hx⟩ : ∃ x, adj[k]? = some x := ⟨adj[k], by simp [hkl]⟩
    have e1 : getI adj (k : Int) = some x := hx
    have e5 : (k : Int) < (adj.length : Int) := by omega
    have hw : wa .i64 (k : Int) 1 = ((k + 1 : Nat) : Int) := wa1 (by omega)
    by_cases hc : (20 : Int) < (x.length : Int)
    ·simp only [ret_bind, ret_if, ret_get, ret_set, ret_app, ret_mkL, ret_sli, ret_wr, ret_wq, ret_some, vq_l, vq_r, Int.toNat_natCast, if_true, if_false, obs, decide_false, decide_true, Bool.false_eq_true, Bool.not_true, Bool.not_false, not_true_eq_false, not_false_eq_true, true_implies, false_implies, reduceCtorEq, true_and, and_true, false_and, or_false, false_or, implies_true, e1, e5, hc]
    ·simp only [ret_bind, ret_if, ret_get, ret_set, ret_app, ret_mkL, ret_sli, ret_wr, ret_wq, ret_some, vq_l, vq_r, Int.toNat_natCast, if_true, if_false, obs, decide_false, decide_true, Bool.false_eq_true, Bool.not_true, Bool.not_false, not_true_eq_false, not_false_eq_true, true_implies, false_implies, reduceCtorEq, true_and, and_true, false_and, or_false, false_or, implies_true, e1, e5, hc, hw]
     refine ⟨hkl, fun l hl => ?_⟩
     rw [mts hx] at hl
     rcases hl with hl | rfl
     ·exact hI l hl
     ·omega
   ·have e5 : ¬ (k : Int) < (adj.length : Int) := by omega
    simp only [ret_bind, ret_if, ret_get, ret_set, ret_app, ret_mkL, ret_sli, ret_wr, ret_wq, ret_some, vq_l, vq_r, Int.toNat_natCast, if_true, if_false, obs, decide_false, decide_true, Bool.false_eq_true, Bool.not_true, Bool.not_false, not_true_eq_false, not_false_eq_true, true_implies, false_implies, reduceCtorEq, true_and, and_true, false_and, or_false, false_or, implies_true, e5]
    rw [take_all (by omega)] at hI
    exact ⟨⟨by omega, fun l hl => by have := hI l hl; omega⟩, fun h => by omega⟩
  ·rintro o ho
   cases o with
   | inl u => simp only [ret_some]; exact fun _ => ho rfl
   | inr u => simp only [ret_some]; exact fun h => by cases h

theorem small18_ok {adj : List (List Int)} {vx : List Int} {ed : List (List Int)} : Ret (sparselaw18_small adj vx ed) (fun b => b = true → Sml adj ∧ (adj.length ≤ 200 → adj.length ≤ 30) ∧ vx.length ≤ 400 ∧ ed.length ≤ 400 ∧ ∀ e, e ∈ ed → e.length ≤ 20) := by
 unfold sparselaw18_small
 obtain ⟨b, b1, b2⟩ := smallG18_ok (adj := adj)
 rw [bindS b1]
 by_cases h : (((!b) || decide ((400 : Int) < (vx.length : Int))) || decide ((400 : Int) < (ed.length : Int))) = true
 ·rw [if_pos h, ret_some]; exact fun h => by cases h
 ·rw [if_neg h]
  simp only [Bool.or_eq_true, Bool.not_eq_true', decide_eq_true_eq, not_or, Bool.not_eq_false] at h
  obtain ⟨⟨h1, h2⟩, h3⟩ := h
  have hb := b2 h1
  simp only [ret_bind]
  refine ret_call (P := fun o => o = .inl () → ∀ e, e ∈ ed → e.length ≤ 20) ?_ ?_
  ·refine ret_loop ed.length (fun k (t : Int) => t = k ∧ ∀ l, l ∈ ed.take k → l.length ≤ 20) ⟨rfl, by simp⟩ ?_
   rintro k _ hk ⟨rfl, hI⟩
   unfold sparselaw18_small_l3
   by_cases hkl : k < ed.length
   ·obtain ⟨x, hx⟩ : ∃ x, ed[k]? = some x := ⟨ed[k], by simp [hkl]⟩
    have e1 : getI ed (k : Int) = some x := hx
    have e5 : (k : Int) < (ed.length : Int) := by omega
    have hw : wa .i64 (k : Int) 1 = ((k + 1 : Nat) : Int) := wa1 (by omega)
    by_cases hc : (20 : Int) < (x.length : Int)
    ·simp only [ret_bind, ret_if, ret_get, ret_set, ret_app, ret_mkL, ret_sli, ret_wr, ret_wq, ret_some, vq_l, vq_r, Int.toNat_natCast, if_true, if_false, obs, decide_false, decide_true, Bool.false_eq_true, Bool.not_true, Bool.not_false, not_true_eq_false, not_false_eq_true, true_implies, false_implies, reduceCtorEq, true_and, and_true, false_and, or_false, false_or, implies_true, e1, e5, hc]
    ·simp only [ret_bind, ret_if, ret_get, ret_set, ret_app, ret_mkL, ret_sli, ret_wr, ret_wq, ret_some, vq_l, vq_r, Int.toNat_natCast, if_true, if_false, obs, decide_false, decide_true, Bool.false_eq_true, Bool.not_true, Bool.not_false, not_true_eq_false, not_false_eq_true, true_implies, false_implies, reduceCtorEq, true_and, and_true, false_and, or_false, false_or, implies_true, e1, e5, hc, hw]
     refine ⟨hkl, fun l hl => ?_⟩
     rw [mts hx] at hl
     rcases hl with hl | rfl
     ·exact hI l hl
     ·omega
   ·have e5 : ¬ (k : Int) < (ed.length : Int) := by omega
    simp only [ret_bind, ret_if, ret_get, ret_set, ret_app, ret_mkL, ret_sli, ret_wr, ret_wq, ret_some, vq_l, vq_r, Int.toNat_natCast, if_true, if_false, obs, decide_false, decide_true, Bool.false_eq_true, Bool.not_true, Bool.not_false, not_true_eq_false, not_false_eq_true, true_implies, false_implies, reduceCtorEq, true_and, and_true, false_and, or_false, false_or, implies_true, e5]
    rw [take_all (by omega)] at hI
    exact hI
  ·rintro o ho
   cases o with
   | inl u => simp only [ret_some]; exact fun _ => ⟨hb.1, hb.2, by omega, by omega, ho rfl⟩
   | inr u => simp only [ret_some]; exact fun h => by cases h

theorem twinW_ok {adj : List (List Int)} {vx : List Int} {ed : List (List Int)} (h1 : Sml adj) (h2 : vx.length ≤ 1000) (h3 : Sml ed) : sparsekit_TwinWeighted adj vx ed = some (adj, vx, ed) := by
 have e1 := twinGraph_ok h1
 have e2 := twinGraph_ok h3
 have e3 : sparsekit_TwinLists ed = some ed := by
  unfold sparsekit_TwinGraph at e2
  obtain ⟨r, r1, r2⟩ := bs e2
  rw [r1, Option.some.inj r2]
 unfold sparsekit_TwinWeighted
 rw [bindS e1, bindS (twinInts_ok (by omega)), bindS e3]

theorem weighted_same {adj : List (List Int)} {vx : List Int} {ed : List (List Int)} (h1 : OkG adj) (h2 : vx.length ≤ 1000) (h3 : OkG ed) : sparsekit_Weighted adj vx ed adj vx ed = some true := by
 unfold sparsekit_Weighted
 rw [graph_same h1, lists_same h3, kints_ok (by omega)]
 simp

/-- all results agree -/
theorem results_same {adj : List (List Int)} {vx : List Int} {ed : List (List Int)} {e : Int} (hs : adj.length ≤ 200 → adj.length ≤ 30) (l : List Int) (hl : l.length ≤ 1000)
  (c1 : dissect_CheckWeighted adj vx ed = some e) (c2 : sparseref18_CheckWeighted adj vx ed = some e) (h : (e = 0 ∧ Wt adj vx ed ∧ adj.length ≤ 200) ∨ e ≠ 0) :
  ∃ A C B U, dissect_Match adj vx ed = some A ∧ sparseref18_Match adj vx ed = some A ∧ A.1.length ≤ 1000 ∧ dissect_Coarsen adj vx ed l = some C ∧ sparseref18_Coarsen adj vx ed l = some C ∧ OkW C
   ∧ dissect_Bisect adj vx ed = some B ∧ sparseref18_Bisect FUEL adj vx ed = some B ∧ B.1.length ≤ 1000 ∧ dissect_Cut adj vx ed l = some U ∧ sparseref18_Cut adj vx ed l = some U := by
 obtain ⟨f, hf⟩ := fuel_succ'
 rcases h with ⟨rfl, hW, hn⟩ | he
 ·obtain ⟨k1, k2, hT⟩ := hW.canon (B := 1099511627776) (by omega) (fun e he x hx => (hW.er e he x hx).2)
  have hn12 := hs hn
  generalize wof adj ed = W at k1 k2 hT
  generalize hk : adj.length = n at *
  subst k1
  subst k2
  have hv : Vw n vx := ⟨by have := hW.vl; rw [hk] at this; exact this, hW.vr⟩
  obtain ⟨m, m1, m2, hM⟩ := pMatch_ok hW (by omega)
  have m3 := rmatch_ok hW (by omega) c2 m1
  have hml := hM.len
  obtain ⟨C, C1, C2, C3⟩ := coarsens_same hn hT hv l
  obtain ⟨o, b, o1, o2, o3, o4⟩ := bisect3_ok n (by omega) hT hv FUEL FUEL (by omega) (by omega)
  obtain ⟨U, U1, U2⟩ := cuts_same hn hT (by omega) hW hl
  refine ⟨(m, 0), C, (o, if b = true then 0 else 3), U, m2, m3, by simp only; omega, C1, C2, C3, ?_, o2, ?_, U1, U2⟩
  ·unfold dissect_Bisect
   rw [bindS c1, if_pos rfl, bindS o1]
   cases b with
   | true => simp
   | false => rw [o4 rfl]; simp
  ·cases b with
   | true => have := (o3 rfl).1; simp only; omega
   | false => rw [o4 rfl]; simp
 ·have m3 : sparseref18_Match adj vx ed = some ([], e) := by
   unfold sparseref18_Match; rw [bindS c2, if_neg he]
  refine ⟨([], e), ([], [], [], [], e), ([], e), (0, e), ?_, m3, by simp, ?_, ?_, ⟨okG_nil, by simp, okG_nil, by simp⟩, ?_, ?_, by simp, ?_, ?_⟩
  ·unfold dissect_Match; rw [bindS c1, if_neg he]
  ·unfold dissect_Coarsen; rw [bindS c1, if_neg he]
  ·unfold sparseref18_Coarsen; rw [bindS c2, if_neg he]
  ·unfold dissect_Bisect; rw [bindS c1, if_neg he]
  ·obtain ⟨k, hk⟩ : ∃ k, FUEL = k + 1 := ⟨f + 999, hf⟩
   rw [hk, rbisect_succ]
   unfold sparseref18_Bisect_body
   rw [bindS m3]
   simp only
   rw [if_neg he]
  ·unfold dissect_Cut; rw [bindS c1, if_neg he]
  ·unfold sparseref18_Cut; rw [bindS c2, if_neg he]

theorem dissectWeighted_true (x1 : List (List Int)) (x3 : List Int) (x5 : List (List Int)) (x7 : List Int) : sparselaw18_DissectWeighted x1 x3 x5 x7 = some true := by
 unfold sparselaw18_DissectWeighted
 obtain ⟨b, b1, b2⟩ := small18_ok (adj := x1) (vx := x3) (ed := x5)
 rw [bindS b1]
 by_cases hc : ((!b) || decide ((20 : Int) < (x7.length : Int))) = true
 ·rw [if_pos hc, awake18]; rfl
 ·rw [if_neg hc]
  simp only [Bool.or_eq_true, Bool.not_eq_true', decide_eq_true_eq, not_or, Bool.not_eq_false] at hc
  obtain ⟨hs, h12, hvl, hel, her⟩ := b2 hc.1
  have hes : Sml x5 := ⟨by omega, fun e he => by have := her e he; omega⟩
  obtain ⟨e, c1, c2, h⟩ := wchecks (vx := x3) hs (by omega) (fun e he => by have := her e he; omega)
  obtain ⟨A, C, B, U, a1, a2, a3, d1, d2, d3, f1, f2, f3, u1, u2⟩ := results_same h12 x7 (by omega) c1 c2 h
  have i1 : sparsekit_Ints A.1 A.1 = some true := by rw [kints_ok (by omega), decide_eq_true rfl]
  have i2 : sparsekit_Ints C.2.2.2.1 C.2.2.2.1 = some true := by rw [kints_ok (by have := d3.2.2.2; omega), decide_eq_true rfl]
  have i3 : sparsekit_Ints B.1 B.1 = some true := by rw [kints_ok (by omega), decide_eq_true rfl]
  have w1 := weighted_same d3.1 d3.2.1 d3.2.2.1
  have w2 := weighted_same (adj := x1) (vx := x3) (ed := x5) hs (by omega) hes
  rw [bindS (twinW_ok hs (by omega) hes)]
  simp only
  rw [bindS a1, bindS a2, bindS d1, bindS d2, bindS f1, bindS f2, bindS u1, bindS u2, bindS c1, bindS c2]
  simp [i1, i2, i3, w1, w2, awake18]
end Pd
