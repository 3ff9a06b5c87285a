/- Coarsening: what the program makes of mates. -/
import Derived.Test.YthpeajepbffinaaGreatPdB
import Derived.Test.YthpeajepbffinaaGreatPdC
import Derived.Test.YthpeajepbffinaaGreatM6
set_option linter.unusedSimpArgs false
set_option linter.unusedVariables false
namespace Pd
open Pl Sx Go M Vc

/-- the coarse vertex of v; the weight of v -/
def tt (to : List Int) (v : Nat) : Nat := (to[v]?.getD 0).toNat
def vw (vx : List Int) (v : Nat) : Int := vx[v]?.getD 0
theorem tt_get {to : List Int} {v : Nat} {a : Int} (h : to[v]? = some a) : tt to v = a.toNat := by unfold tt; rw [h]; rfl
theorem vw_get {vx : List Int} {v : Nat} {x : Int} (h : vx[v]? = some x) : vw vx v = x := by unfold vw; rw [h]; rfl
theorem tt_set {to : List Int} {k v : Nat} {a : Nat} (hk : k < to.length) : tt (to.set k (a : Int)) v = if v = k then a else tt to v := by
 unfold tt
 rw [List.getElem?_set]
 by_cases h : k = v
 ·subst h; rw [if_pos rfl, if_pos hk, if_pos rfl]; simp
 ·rw [if_neg h, if_neg (fun e => h e.symm)]

/-- the vertices are merged, so far -/
structure Mg (vx : List Int) (n k : Nat) (vs to : List Int) : Prop where
 tl : to.length = n
 vl : vs.length ≤ k
 tr : ∀ v, v < k → ∃ a : Nat, to[v]? = some (a : Int) ∧ a < vs.length
 ws : ∀ a, a < vs.length → vs[a]? = some (sm k fun v => if tt to v = a then vw vx v else 0)
 sj : ∀ a, a < vs.length → ∃ v, v < k ∧ tt to v = a

theorem merge_ok {n : Nat} {m vx : List Int} (hM : Ml n m) (hn : n ≤ 200) (hv : vx.length = n) (hvx : ∀ x, x ∈ vx → Wg x) :
  Ret (loop (dissect_coarsen_l3 m vx) ([], List.replicate n 0, 0)) (fun o => Mg vx n n o.1 o.2) := by
 have hml := hM.len
 have hvw : ∀ v, v < n → vx[v]? = some (vw vx v) ∧ 1 ≤ vw vx v ∧ vw vx v ≤ 1099511627776 := by
  intro v hvn
  obtain ⟨x, hx⟩ : ∃ x, vx[v]? = some x := ⟨vx[v]'(by omega), by simp [show v < vx.length by omega]⟩
  have := hvx x (mem_get hx)
  rw [vw_get hx]
  exact ⟨hx, this.1, this.2⟩
 refine ret_loop n (fun k (t : List Int × List Int × Int) => t.2.2 = k ∧ Mg vx n k t.1 t.2.1) ⟨rfl, by simp, by simp, fun v h => by omega, fun a h => by simp at h, fun a h => by simp at h⟩ ?_
 rintro k ⟨vs, to, i⟩ hk ⟨rfl, hI⟩
 simp only at hI
 obtain ⟨h1, h2, h3, h4, h5⟩ := hI
 unfold dissect_coarsen_l3 dissect_coarsen_j50
 by_cases hkn : k < n
 ·obtain ⟨u, hu⟩ : ∃ u, m[k]? = some u := ⟨m[k]'(by omega), by simp [show k < m.length by omega]⟩
  obtain ⟨hur, _⟩ := hM.mate k u hu
  obtain ⟨hx1, hx2, hx3⟩ := hvw k hkn
  have e1 : getI m (k : Int) = some u := hu
  have e5 : (k : Int) < (m.length : Int) := by omega
  have hw : wa .i64 (k : Int) 1 = ((k + 1 : Nat) : Int) := wa1 (by omega)
  have ex : getI vx (k : Int) = some (vw vx k) := hx1
  have hb : ∀ a, 0 ≤ sm k (fun v => if tt to v = a then vw vx v else 0) ∧ sm k (fun v => if tt to v = a then vw vx v else 0) ≤ k * 1099511627776 := by
   intro a
   refine ⟨sm_nonneg fun v hv => ?_, sm_bound fun v hv => ?_⟩
   ·have := hvw v (by omega); split <;> omega
   ·have := hvw v (by omega); split <;> omega
  have hbk : (k : Int) * 1099511627776 ≤ 200 * 1099511627776 := by omega
  have sm_eq : ∀ (a b : Nat), sm (k + 1) (fun v => if tt (to.set k (a : Int)) v = b then vw vx v else 0) = sm k (fun v => if tt to v = b then vw vx v else 0) + if a = b then vw vx k else 0 := by
   intro a b
   have e0 : tt (to.set k (a : Int)) k = a := by rw [tt_set (by omega), if_pos rfl]
   have e1 : sm k (fun v => if tt (to.set k (a : Int)) v = b then vw vx v else 0) = sm k (fun v => if tt to v = b then vw vx v else 0) := by
    refine sm_congr fun v hv => ?_
    have : tt (to.set k (a : Int)) v = tt to v := by rw [tt_set (by omega), if_neg (by omega)]
    rw [this]
   rw [sm, e1, e0]
  have sj_eq : ∀ (a b : Nat), b < vs.length → ∃ v, v < k + 1 ∧ tt (to.set k (a : Int)) v = b := by
   intro a b hb2
   obtain ⟨v, g1, g2⟩ := h5 b hb2
   exact ⟨v, by omega, by rw [tt_set (by omega), if_neg (by omega)]; exact g2⟩
  have tr_eq : ∀ (a K : Nat), a < K → vs.length ≤ K → ∀ v, v < k + 1 → ∃ b : Nat, (to.set k (a : Int))[v]? = some (b : Int) ∧ b < K := by
   intro a K ha hK v hv
   rw [List.getElem?_set]
   by_cases hvk : k = v
   ·rw [if_pos hvk, if_pos (by omega)]; exact ⟨a, rfl, ha⟩
   ·rw [if_neg hvk]
    obtain ⟨b, g1, g2⟩ := h3 v (by omega)
    exact ⟨b, g1, by omega⟩
  by_cases huk : u < (k : Int)
  ·obtain ⟨u, rfl⟩ := Int.eq_ofNat_of_zero_le hur.1
   obtain ⟨a, ha1, ha2⟩ := h3 u (by omega)
   have e2 : getI to (u : Int) = some (a : Int) := ha1
   have e3 : setI to (k : Int) (a : Int) = some (to.set k (a : Int)) := setI_lt (by omega)
   have e4 : getI (to.set k (a : Int)) (k : Int) = some (a : Int) := by rw [getI_cast, List.getElem?_set, if_pos rfl, if_pos (by omega)]
   have hb' := hb a
   have e6 : getI vs (a : Int) = some (sm k fun v => if tt to v = a then vw vx v else 0) := h4 a ha2
   have hw2 : wa .i64 (sm k fun v => if tt to v = a then vw vx v else 0) (vw vx k) = (sm k fun v => if tt to v = a then vw vx v else 0) + vw vx k := wa_i (by omega) (by omega)
   have e7 : setI vs (a : Int) ((sm k fun v => if tt to v = a then vw vx v else 0) + vw vx k) = some (vs.set a ((sm k fun v => if tt to v = a then vw vx v else 0) + vw vx k)) := setI_lt ha2
   simp only [ret_bind, ret_if, e5, huk, ret_of e1, ret_of e2, ret_of e3, ret_of e4, ret_of e6, ret_of ex, hw2, ret_of e7, ret_some, vq_l, vq_r, true_implies, not_true_eq_false, false_implies, and_true, hw]
   refine ⟨by omega, trivial, by simp [h1], by simp; omega, by simpa using tr_eq a vs.length ha2 (Nat.le_refl _), fun b hb2 => ?_, fun b hb2 => sj_eq a b (by simpa using hb2)⟩
   simp only [List.length_set] at hb2
   rw [sm_eq, List.getElem?_set]
   by_cases hab : a = b
   ·subst hab; rw [if_pos rfl, if_pos ha2, if_pos rfl]
   ·rw [if_neg hab, if_neg hab, h4 b hb2, Int.add_zero]
  ·have e3 : setI to (k : Int) (vs.length : Int) = some (to.set k (vs.length : Int)) := setI_lt (by omega)
   have e4 : app vs [vw vx k] = some (vs ++ [vw vx k]) := app_small (by rw [List.length_singleton]; omega)
   simp only [ret_bind, ret_if, e5, huk, ret_of e1, ret_of e3, ret_of ex, ret_of e4, ret_some, vq_l, vq_r, true_implies, not_true_eq_false, not_false_eq_true, false_implies, and_true, true_and, hw]
   refine ⟨by omega, by simp [h1], by simp; omega, ?_, fun b hb2 => ?_, fun b hb2 => ?_⟩
   ·have := tr_eq vs.length (vs.length + 1) (by omega) (by omega)
    simpa using this
   ·simp only [List.length_append, List.length_singleton] at hb2
    rw [sm_eq]
    by_cases hbl : b < vs.length
    ·rw [List.getElem?_append_left hbl, h4 b hbl, if_neg (by omega), Int.add_zero]
    ·have : b = vs.length := by omega
     subst this
     rw [List.getElem?_append_right (Nat.le_refl _), if_pos rfl, sm_zero (fun v hv => by
      obtain ⟨b, g1, g2⟩ := h3 v hv
      rw [if_neg]
      rw [tt_get g1]; omega)]
     simp
   ·simp only [List.length_append, List.length_singleton] at hb2
    by_cases hbl : b < vs.length
    ·exact sj_eq vs.length b hbl
    ·exact ⟨k, by omega, by rw [tt_set (by omega), if_pos rfl]; omega⟩
 ·have e5 : ¬ (k : Int) < (m.length : Int) := by omega
  have : k = n := by omega
  subst this
  simp only [ret_bind, ret_if, ret_get, ret_set, ret_app, ret_mkL, ret_sli, ret_wr, ret_wq, ret_some, vq_l, vq_r, Int.toNat_natCast, if_true, if_false, obs, decide_false, decide_true, Bool.false_eq_true, Bool.not_true, Bool.not_false, not_true_eq_false, not_false_eq_true, true_implies, false_implies, reduceCtorEq, true_and, and_true, false_and, or_false, false_or, implies_true, e5]
  exact ⟨h1, h2, h3, h4, h5⟩

/-! ### tables of sums -/
def Tv (X : List (List Int)) (K : Nat) (f : Nat → Nat → Int) : Prop := X.length = K ∧ ∀ a, a < K → ∃ r, X[a]? = some r ∧ r.length = K ∧ ∀ b, b < K → r[b]? = some (f a b)
theorem Tv.congr {X : List (List Int)} {K : Nat} {f g : Nat → Nat → Int} (h : Tv X K f) (he : ∀ a b, a < K → b < K → f a b = g a b) : Tv X K g :=
 ⟨h.1, fun a ha => by obtain ⟨r, h1, h2, h3⟩ := h.2 a ha; exact ⟨r, h1, h2, fun b hb => by rw [h3 b hb, he a b ha hb]⟩⟩
theorem Tv.put {X : List (List Int)} {K : Nat} {f : Nat → Nat → Int} (h : Tv X K f) {a b : Nat} (ha : a < K) (hb : b < K) {r : List Int} (hr : X[a]? = some r) (z : Int) : Tv (X.set a (r.set b z)) K (fun c d => if c = a ∧ d = b then z else f c d) := by
 refine ⟨by simp [h.1], fun c hc => ?_⟩
 obtain ⟨r', h1, h2, h3⟩ := h.2 c hc
 have hXl := h.1
 by_cases hca : a = c
 ·subst hca
  rw [hr] at h1
  obtain rfl := Option.some.inj h1
  refine ⟨r.set b z, by rw [List.getElem?_set, if_pos rfl, if_pos (by omega)], by simp [h2], fun d hd => ?_⟩
  show (r.set b z)[d]? = some (if a = a ∧ d = b then z else f a d)
  rw [List.getElem?_set]
  by_cases hbd : b = d
  ·subst hbd; rw [if_pos rfl, if_pos (by omega), if_pos ⟨rfl, rfl⟩]
  ·rw [if_neg hbd, if_neg (fun hh => hbd hh.2.symm)]; exact h3 d hd
 ·refine ⟨r', by rw [List.getElem?_set, if_neg hca]; exact h1, h2, fun d hd => ?_⟩
  show r'[d]? = some (if c = a ∧ d = b then z else f c d)
  rw [if_neg (fun hh => hca hh.1.symm)]; exact h3 d hd

theorem zeros_ok {K : Nat} (hK : K ≤ 1000) {vs : List Int} (hv : vs.length = K) : Ret (loop (dissect_coarsen_l4 (List.replicate K []) vs) (List.replicate K [], 0)) (fun X => Tv X K (fun _ _ => 0)) := by
 refine ret_loop K (fun k (t : List (List Int) × Int) => t.2 = k ∧ t.1.length = K ∧ ∀ a, a < k → t.1[a]? = some (List.replicate K 0)) ⟨rfl, by simp, fun a h => by omega⟩ ?_
 rintro k ⟨X, i⟩ hk ⟨rfl, h1, h2⟩
 simp only at h1 h2
 unfold dissect_coarsen_l4
 have hrl : (List.replicate K ([] : List Int)).length = K := by simp
 by_cases hkn : k < K
 ·have hw : wa .i64 (k : Int) 1 = ((k + 1 : Nat) : Int) := wa1 (by omega)
  have e5 : (k : Int) < (K : Int) := by omega
  simp only [ret_bind, ret_if, ret_get, ret_set, ret_app, ret_mkL, ret_sli, ret_wr, ret_wq, ret_some, vq_l, vq_r, Int.toNat_natCast, if_true, if_false, obs, decide_false, decide_true, Bool.false_eq_true, Bool.not_true, Bool.not_false, not_true_eq_false, not_false_eq_true, true_implies, false_implies, reduceCtorEq, hrl, e5, hv, hw]
  refine ⟨by omega, by omega, by omega, by omega, hkn, trivial, by simp [h1], fun u hu => ?_⟩
  rw [List.getElem?_set]
  by_cases hku : k = u
  ·rw [if_pos hku, if_pos (by omega)]
  ·rw [if_neg hku]; exact h2 u (by omega)
 ·have e5 : ¬ (k : Int) < (K : Int) := by omega
  simp only [ret_bind, ret_if, ret_get, ret_set, ret_app, ret_mkL, ret_sli, ret_wr, ret_wq, ret_some, vq_l, vq_r, Int.toNat_natCast, if_true, if_false, obs, decide_false, decide_true, Bool.false_eq_true, Bool.not_true, Bool.not_false, not_true_eq_false, not_false_eq_true, true_implies, false_implies, reduceCtorEq, hrl, e5]
  exact ⟨h1, fun a ha => ⟨_, h2 a (by omega), by simp, fun b hb => by simp [hb]⟩⟩

/-- one row of weights is added -/
def rowS (W : Nat → Nat → Int) (to : List Int) (v : Nat) (l : List Nat) (a b : Nat) : Int := (l.map fun u => if tt to v = a ∧ tt to u = b then W v u else 0).sum
def tabS (n : Nat) (W : Nat → Nat → Int) (to : List Int) (k a b : Nat) : Int := sm k fun v => sm n fun u => if tt to v = a ∧ tt to u = b then W v u else 0

theorem row_add {n : Nat} (hn : n ≤ 200) {W : Nat → Nat → Int} {B : Int} (hT : Tw n W B) (hB : 0 ≤ B ∧ B ≤ 1099511627776) {to : List Int} {K v : Nat} (hv : v < n) (hto : ∀ u, u < n → ∃ a : Nat, to[u]? = some (a : Int) ∧ a < K) {X : List (List Int)} {f : Nat → Nat → Int} (hX : Tv X K f) {c : Nat} (hc : c ≤ 50000) (hf : ∀ a b, a < K → b < K → 0 ≤ f a b ∧ f a b ≤ c * B) :
  Ret (loop (dissect_coarsen_l49 ((nbs n (W v)).map Int.ofNat) to (v : Int) (ced n W)) (X, 0)) (fun X' => Tv X' K (fun a b => f a b + rowS W to v (nbs n (W v)) a b)) := by
 have hnl := nbs_len (n := n) (f := W v)
 have hll : ((nbs n (W v)).map Int.ofNat).length = (nbs n (W v)).length := by simp
 refine (ret_loop (nbs n (W v)).length (fun k (t : List (List Int) × Int) => t.2 = k ∧ Tv t.1 K (fun a b => f a b + rowS W to v ((nbs n (W v)).take k) a b) ∧ ∀ a b, a < K → b < K → 0 ≤ rowS W to v ((nbs n (W v)).take k) a b ∧ rowS W to v ((nbs n (W v)).take k) a b ≤ k * B) ⟨rfl, hX.congr fun a b _ _ => by simp [rowS], fun a b _ _ => by simp [rowS]⟩ ?_).mono (fun X' h => h)
 rintro k ⟨X, i⟩ hk ⟨rfl, h1, h2⟩
 simp only at h1
 unfold dissect_coarsen_l49
 by_cases hkl : k < (nbs n (W v)).length
 ·obtain ⟨u, hu⟩ : ∃ u, (nbs n (W v))[k]? = some u := ⟨(nbs n (W v))[k], by simp [hkl]⟩
  obtain ⟨hun, hpos⟩ := nbs_mem.1 (List.mem_of_getElem? hu)
  have hwr := hT.nn v u hv hun
  obtain ⟨a, ha1, ha2⟩ := hto v hv
  obtain ⟨b, hb1, hb2⟩ := hto u hun
  have hta : tt to v = a := by rw [tt_get ha1]; simp
  have htb : tt to u = b := by rw [tt_get hb1]; simp
  obtain ⟨r, hr1, hr2, hr3⟩ := h1.2 a ha2
  have hXl := h1.1
  have e0 : getI ((nbs n (W v)).map Int.ofNat) (k : Int) = some (u : Int) := by rw [getI_cast, List.getElem?_map, hu]; rfl
  have e1 : getI to (v : Int) = some (a : Int) := ha1
  have e2 : getI X (a : Int) = some r := hr1
  have e3 : getI to (u : Int) = some (b : Int) := hb1
  have e4 : getI r (b : Int) = some (f a b + rowS W to v ((nbs n (W v)).take k) a b) := hr3 b hb2
  have e6 : getI (ced n W) (v : Int) = some ((nbs n (W v)).map (W v)) := ced_get hv
  have e7 : getI ((nbs n (W v)).map (W v)) (k : Int) = some (W v u) := by rw [getI_cast, List.getElem?_map, hu]; rfl
  have e5 : (k : Int) < (((nbs n (W v)).map Int.ofNat).length : Int) := by omega
  have hw : wa .i64 (k : Int) 1 = ((k + 1 : Nat) : Int) := wa1 (by omega)
  have g1 := hf a b ha2 hb2
  have g2 := h2 a b ha2 hb2
  have gc : (c : Int) * B ≤ 50000 * 1099511627776 := Int.le_trans (Int.mul_le_mul_of_nonneg_right (show (c : Int) ≤ 50000 by omega) hB.1) (Int.mul_le_mul_of_nonneg_left hB.2 (by omega))
  have gk : (k : Int) * B ≤ 200 * 1099511627776 := Int.le_trans (Int.mul_le_mul_of_nonneg_right (show (k : Int) ≤ 200 by omega) hB.1) (Int.mul_le_mul_of_nonneg_left hB.2 (by omega))
  have hw2 : wa .i64 (f a b + rowS W to v ((nbs n (W v)).take k) a b) (W v u) = f a b + rowS W to v ((nbs n (W v)).take k) a b + W v u := wa_i (by omega) (by omega)
  have e8 : setI r (b : Int) (f a b + rowS W to v ((nbs n (W v)).take k) a b + W v u) = some (r.set b (f a b + rowS W to v ((nbs n (W v)).take k) a b + W v u)) := setI_lt (by omega)
  have e9 : ∀ z : List Int, setI X (a : Int) z = some (X.set a z) := fun z => setI_lt (by omega)
  have hrs : ∀ c d, rowS W to v ((nbs n (W v)).take (k + 1)) c d = rowS W to v ((nbs n (W v)).take k) c d + if a = c ∧ b = d then W v u else 0 := by
   intro c d
   unfold rowS
   rw [tks hu, List.map_append, List.sum_append]
   simp [hta, htb]
  simp only [ret_bind, ret_if, e5, ret_of e0, ret_of e1, ret_of e2, ret_of e3, ret_of e4, ret_of e6, ret_of e7, hw2, ret_of e8, ret_of (e9 _), ret_some, vq_l, vq_r, true_implies, not_true_eq_false, false_implies, and_true, hw]
  refine ⟨hkl, trivial, (h1.put ha2 hb2 hr1 _).congr fun c d hc hd => ?_, fun c d hc hd => ?_⟩
  ·rw [hrs]
   by_cases hcd : c = a ∧ d = b
   ·obtain ⟨rfl, rfl⟩ := hcd
    rw [if_pos ⟨rfl, rfl⟩, if_pos ⟨rfl, rfl⟩]; omega
   ·rw [if_neg hcd, if_neg (fun hh => hcd ⟨hh.1.symm, hh.2.symm⟩)]; omega
  ·rw [hrs]
   have := h2 c d hc hd
   have hk1 : ((k + 1 : Nat) : Int) * B = k * B + B := by rw [Int.natCast_add, Int.add_mul]; omega
   rw [hk1]
   split <;> omega
 ·have e5 : ¬ (k : Int) < (((nbs n (W v)).map Int.ofNat).length : Int) := by omega
  simp only [ret_bind, ret_if, ret_get, ret_set, ret_app, ret_mkL, ret_sli, ret_wr, ret_wq, ret_some, vq_l, vq_r, Int.toNat_natCast, if_true, if_false, obs, decide_false, decide_true, Bool.false_eq_true, Bool.not_true, Bool.not_false, not_true_eq_false, not_false_eq_true, true_implies, false_implies, reduceCtorEq, true_and, and_true, false_and, or_false, false_or, implies_true, e5]
  rw [take_all (by omega)] at h1
  exact h1

theorem rowS_all {n : Nat} {W : Nat → Nat → Int} {B : Int} (hT : Tw n W B) {to : List Int} {v : Nat} (hv : v < n) (a b : Nat) : rowS W to v (nbs n (W v)) a b = sm n fun u => if tt to v = a ∧ tt to u = b then W v u else 0 := by
 unfold rowS
 rw [nbs_sum]
 refine sm_congr fun u hu => ?_
 by_cases h : 0 < W v u
 ·rw [if_pos h]
 ·have := hT.nn v u hv hu
  rw [if_neg h]; split <;> omega

theorem table_ok {n : Nat} (hn : n ≤ 200) {W : Nat → Nat → Int} {B : Int} (hT : Tw n W B) (hB : 0 ≤ B ∧ B ≤ 1099511627776) {to : List Int} {K : Nat} (hto : ∀ u, u < n → ∃ a : Nat, to[u]? = some (a : Int) ∧ a < K) {X : List (List Int)} (hX : Tv X K fun _ _ => 0) :
  Ret (loop (dissect_coarsen_l7 (cadj n W) to (ced n W)) (X, 0)) (fun X' => Tv X' K (tabS n W to n) ∧ ∀ a b, 0 ≤ tabS n W to n a b ∧ tabS n W to n a b ≤ (n * n : Nat) * B) := by
 have hb : ∀ k, k ≤ n → ∀ a b, 0 ≤ tabS n W to k a b ∧ tabS n W to k a b ≤ (k * n : Nat) * B := by
  intro k hk a b
  unfold tabS
  refine ⟨sm_nonneg fun v hv => sm_nonneg fun u hu => ?_, ?_⟩
  ·have := hT.nn v u (by omega) hu; split <;> omega
  ·have : sm k (fun v => sm n fun u => if tt to v = a ∧ tt to u = b then W v u else 0) ≤ k * (n * B) := sm_bound fun v hv => sm_bound fun u hu => by
    have := hT.nn v u (by omega) hu; split <;> omega
   rw [Int.natCast_mul, Int.mul_assoc]; exact this
 refine (ret_loop n (fun k (t : List (List Int) × Int) => t.2 = k ∧ Tv t.1 K (tabS n W to k)) ⟨rfl, hX.congr fun a b _ _ => rfl⟩ ?_).mono (fun X' h => ⟨h, hb n (Nat.le_refl _)⟩)
 rintro k ⟨X, i⟩ hk ⟨rfl, h1⟩
 simp only at h1
 unfold dissect_coarsen_l7
 have hcl : (cadj n W).length = n := cadj_len
 by_cases hkn : k < n
 ·have e1 : getI (cadj n W) (k : Int) = some ((nbs n (W k)).map Int.ofNat) := cadj_get hkn
  have e5 : (k : Int) < ((cadj n W).length : Int) := by omega
  have hw : wa .i64 (k : Int) 1 = ((k + 1 : Nat) : Int) := wa1 (by omega)
  simp only [ret_bind, ret_if, e5, ret_of e1, true_implies, not_true_eq_false, false_implies, and_true]
  have hkn2 : k * n ≤ 200 * 200 := Nat.mul_le_mul (by omega) hn
  refine ret_call (row_add hn hT hB hkn hto h1 (c := k * n) (by omega) (fun a b _ _ => hb k hk a b)) ?_
  intro X' hX'
  rw [ret_some, vq_l]
  refine ⟨hkn, hw, hX'.congr fun a b _ _ => ?_⟩
  rw [rowS_all hT hkn]; rfl
 ·have e5 : ¬ (k : Int) < ((cadj n W).length : Int) := by omega
  have : k = n := by omega
  subst this
  simp only [ret_bind, ret_if, ret_get, ret_set, ret_app, ret_mkL, ret_sli, ret_wr, ret_wq, ret_some, vq_l, vq_r, Int.toNat_natCast, if_true, if_false, obs, decide_false, decide_true, Bool.false_eq_true, Bool.not_true, Bool.not_false, not_true_eq_false, not_false_eq_true, true_implies, false_implies, reduceCtorEq, true_and, and_true, false_and, or_false, false_or, implies_true, e5]
  exact h1

/-- the coarse weights -/
def cw (f : Nat → Nat → Int) (a b : Nat) : Int := if a = b then 0 else f a b

theorem rows_ok {K : Nat} (hK : K ≤ 200) {a : Nat} (ha : a < K) {r : List Int} {f : Nat → Nat → Int} (hr : r.length = K) (hr2 : ∀ b, b < K → r[b]? = some (f a b)) {A E : List (List Int)} (hA : A.length = K) (hE : E.length = K) (hA1 : A[a]? = some []) (hE1 : E[a]? = some []) :
  loop (dissect_coarsen_l44 r (a : Int)) (A, E, 0) = some (A.set a ((nbs K (cw f a)).map Int.ofNat), E.set a ((nbs K (cw f a)).map (cw f a))) := by
 have hA0 : A.set a [] = A := by
  apply List.ext_getElem?; intro i; rw [List.getElem?_set]
  by_cases h : a = i
  ·subst h; rw [if_pos rfl, if_pos (by omega), hA1]
  ·rw [if_neg h]
 have hE0 : E.set a [] = E := by
  apply List.ext_getElem?; intro i; rw [List.getElem?_set]
  by_cases h : a = i
  ·subst h; rw [if_pos rfl, if_pos (by omega), hE1]
  ·rw [if_neg h]
 refine Ret.eq ?_
 refine ret_loop K (fun k (t : List (List Int) × List (List Int) × Int) => t = (A.set a ((nbs k (cw f a)).map Int.ofNat), E.set a ((nbs k (cw f a)).map (cw f a)), (k : Int))) (by simp [nbs, hA0, hE0]) ?_
 rintro k _ hk rfl
 unfold dissect_coarsen_l44 dissect_coarsen_j47
 by_cases hkn : k < K
 ·have e1 : getI r (k : Int) = some (f a k) := hr2 k hkn
  have e5 : (k : Int) < (r.length : Int) := by omega
  have hw : wa .i64 (k : Int) 1 = ((k + 1 : Nat) : Int) := wa1 (by omega)
  have hnl := nbs_len (n := k) (f := cw f a)
  by_cases hc : a ≠ k ∧ 0 < f a k
  ·have e6 : (!(decide ((a : Int) = (k : Int))) && decide ((0 : Int) < f a k)) = true := by simp; omega
   have hcw : cw f a k = f a k := by unfold cw; rw [if_neg hc.1]
   have hns : nbs (k + 1) (cw f a) = nbs k (cw f a) ++ [k] := by rw [nbs_succ, if_pos (by rw [hcw]; exact hc.2)]
   have g1 : ∀ z : List Int, getI (A.set a z) (a : Int) = some z := fun z => by rw [getI_cast, List.getElem?_set, if_pos rfl, if_pos (by omega)]
   have g2 : ∀ z : List Int, getI (E.set a z) (a : Int) = some z := fun z => by rw [getI_cast, List.getElem?_set, if_pos rfl, if_pos (by omega)]
   have g3 : ∀ z z' : List Int, setI (A.set a z) (a : Int) z' = some (A.set a z') := fun z z' => by rw [setI_lt (by simp; omega), List.set_set]
   have g4 : ∀ z z' : List Int, setI (E.set a z) (a : Int) z' = some (E.set a z') := fun z z' => by rw [setI_lt (by simp; omega), List.set_set]
   simp only [ret_bind, ret_if, e5, ret_of e1, e6, ret_of (g1 _), ret_of (g2 _), ret_of (g3 _ _), ret_of (g4 _ _), ret_app, ret_some, vq_l, vq_r, true_implies, not_true_eq_false, false_implies, and_true, hw, List.length_map, List.length_singleton]
   refine ⟨by omega, by omega, hkn, ?_⟩
   rw [hns, List.map_append, List.map_append, ← hcw]; rfl
  ·have e6 : (!(decide ((a : Int) = (k : Int))) && decide ((0 : Int) < f a k)) = false := by
    rw [← Bool.not_eq_true]
    simp only [Bool.and_eq_true, Bool.not_eq_true', decide_eq_false_iff_not, decide_eq_true_eq]
    intro hh; exact hc ⟨by omega, hh.2⟩
   have hns : nbs (k + 1) (cw f a) = nbs k (cw f a) := by
    rw [nbs_succ, if_neg]
    unfold cw
    intro hh
    by_cases hak : a = k
    ·rw [if_pos hak] at hh; omega
    ·rw [if_neg hak] at hh; exact hc ⟨hak, hh⟩
   simp only [ret_bind, ret_if, ret_get, ret_set, ret_app, ret_mkL, ret_sli, ret_wr, ret_wq, ret_some, vq_l, vq_r, Int.toNat_natCast, if_true, if_false, obs, decide_false, decide_true, Bool.false_eq_true, Bool.not_true, Bool.not_false, not_true_eq_false, not_false_eq_true, true_implies, false_implies, reduceCtorEq, true_and, and_true, false_and, or_false, false_or, implies_true, e5, e1, e6, hw]
   exact ⟨hkn, by rw [hns]⟩
 ·have e5 : ¬ (k : Int) < (r.length : Int) := by omega
  have : k = K := by omega
  subst this
  simp only [ret_bind, ret_if, ret_get, ret_set, ret_app, ret_mkL, ret_sli, ret_wr, ret_wq, ret_some, vq_l, vq_r, Int.toNat_natCast, if_true, if_false, obs, decide_false, decide_true, Bool.false_eq_true, Bool.not_true, Bool.not_false, not_true_eq_false, not_false_eq_true, true_implies, false_implies, reduceCtorEq, true_and, and_true, false_and, or_false, false_or, implies_true, e5]
end Pd
