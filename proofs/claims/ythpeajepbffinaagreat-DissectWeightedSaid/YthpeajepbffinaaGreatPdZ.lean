/- The law of the peripheral vertices over the models. -/
import Derived.Test.YthpeajepbffinaaGreatPsM
import Derived.Test.YthpeajepbffinaaGreatM6
import Derived.Test.YthpeajepbffinaaGreatPdD
set_option linter.unusedSimpArgs false
set_option linter.unusedVariables false
namespace Pl
open Sx Go M Vc

theorem levels_cls {adj : List (List Int)} (hG : Gr adj) (hn : adj.length ≤ 30) {v : Nat} (hv : v < adj.length) :
  ∃ out lev seen c, graph_levels adj (v : Int) = some out ∧ BF adj v lev seen out [] ∧ CC adj v c ∧ ∀ x, x ∈ out.flatten ↔ x ∈ c := by
 obtain ⟨out, lev, seen, h1, h2⟩ := levels_ok hG hn hv
 obtain ⟨o, c, k1, k2, k3, k4⟩ := comp_ok hG hn hv
 rw [h1] at k1
 obtain rfl := Option.some.inj k1
 have hfl : out.flatten.length ≤ adj.length := nodup_len _ _ h2.nodup fun x hx => by have := (h2.flat x).1 hx; exact ⟨this.1, this.2.1⟩
 obtain ⟨m, m1, m2, m3⟩ := sort_ok (l := out.flatten) (by omega)
 rw [m1] at k3
 obtain rfl := Option.some.inj k3
 exact ⟨out, lev, seen, m, h1, h2, k4, fun x => m2.mem_iff.symm⟩

def farR (adj : List (List Int)) (out : List (List Int)) : Option Int :=
 (getI out (ws .i64 (out.length : Int) 1)).bind fun x91 =>
 (getI x91 0).bind fun x93 =>
 (loop (graph_Peripheral_l13 x91 adj) (x93, 0)).bind fun x114 => some x114

theorem far_ok {adj : List (List Int)} {out : List (List Int)} (hlen : 0 < out.length) (hl2 : out.length ≤ 1000) (hne : ∀ l, l ∈ out → l ≠ []) (hr : ∀ l, l ∈ out → ∀ x, x ∈ l → 0 ≤ x ∧ x < adj.length) (hsz : ∀ l, l ∈ out → l.length ≤ 1000) : Ret (farR adj out) (fun w => w ∈ out.flatten ∧ 0 ≤ w ∧ w < adj.length) := by
 unfold farR
 have e : ws .i64 (out.length : Int) 1 = ((out.length - 1 : Nat) : Int) := by rw [ws_i (by omega) (by omega)]; omega
 have hk : out.length - 1 < out.length := by omega
 rw [e, bindS (getI_lt hk)]
 have hm := List.getElem_mem hk
 generalize out[out.length - 1] = l at hm
 have hlp := List.length_pos_iff.2 (hne l hm)
 have hll := hsz l hm
 have hg0 : getI l 0 = some l[0] := getI_lt hlp
 rw [bindS hg0]
 simp only [ret_bind, ret_some]
 refine ret_call (P := fun w => w ∈ l) ?_ (fun w hw => ⟨List.mem_flatten.2 ⟨l, hm, hw⟩, hr l hm w hw⟩)
 refine ret_loop l.length (fun k (s : Int × Int) => s.2 = k ∧ s.1 ∈ l) ⟨rfl, List.getElem_mem _⟩ ?_
 rintro k ⟨s, i⟩ hk2 ⟨rfl, hs⟩
 simp only at hs
 have hrs := hr l hm s hs
 unfold graph_Peripheral_l13 graph_Peripheral_j14
 by_cases hkl : k < l.length
 ·obtain ⟨x, hx⟩ : ∃ x, l[k]? = some x := ⟨l[k], by simp [hkl]⟩
  have hxr := hr l hm x (mem_get hx)
  have e1 : getI l (k : Int) = some x := hx
  have e5 : (k : Int) < (l.length : Int) := by omega
  have e6 : getI adj x = some (adj[x.toNat]'(by omega)) := getI_of hxr.1 (by simp [show x.toNat < adj.length by omega])
  have e7 : getI adj s = some (adj[s.toNat]'(by omega)) := getI_of hrs.1 (by simp [show s.toNat < adj.length by omega])
  have hw : wa .i64 (k : Int) 1 = ((k + 1 : Nat) : Int) := wa1 (by omega)
  simp only [ret_bind, ret_if, ret_get, ret_set, ret_app, ret_mkL, ret_sli, ret_wr, ret_wq, ret_some, vq_l, vq_r, Int.toNat_natCast, if_true, if_false, obs, decide_false, decide_true, Bool.false_eq_true, Bool.not_true, Bool.not_false, not_true_eq_false, not_false_eq_true, true_implies, false_implies, reduceCtorEq, e1, e5, e6, e7, hw]
  exact ⟨fun _ => ⟨hkl, trivial, mem_get hx⟩, fun _ => ⟨hkl, trivial, hs⟩⟩
 ·have e5 : ¬ (k : Int) < (l.length : Int) := by omega
  simp only [ret_bind, ret_if, ret_get, ret_set, ret_app, ret_mkL, ret_sli, ret_wr, ret_wq, ret_some, vq_l, vq_r, Int.toNat_natCast, if_true, if_false, obs, decide_false, decide_true, Bool.false_eq_true, Bool.not_true, Bool.not_false, not_true_eq_false, not_false_eq_true, true_implies, false_implies, reduceCtorEq, e5]
  exact hs

theorem per_step {adj : List (List Int)} {v : Int} {out r : List (List Int)} {w : Int} (h1 : farR adj out = some w) (h2 : graph_levels adj w = some r) :
  graph_Peripheral_l10 adj (v, out) = if (r.length : Int) ≤ (out.length : Int) then some (.inr v) else some (.inl (w, r)) := by
 unfold farR at h1
 unfold graph_Peripheral_l10
 simp only
 obtain ⟨l, g1, h1⟩ := bs h1
 obtain ⟨x, g2, h1⟩ := bs h1
 obtain ⟨z, g3, h1⟩ := bs h1
 obtain rfl := Option.some.inj h1
 rw [bindS g1, bindS g2, bindS g3, bindS h2]

theorem bf_pre {adj : List (List Int)} {root : Nat} {lev : Nat → Nat} {seen : List Bool} {out : List (List Int)} (h : BF adj root lev seen out []) (hr : root < adj.length) (hn : adj.length ≤ 30) :
  0 < out.length ∧ out.length ≤ adj.length ∧ (∀ l, l ∈ out → l ≠ []) ∧ (∀ l, l ∈ out → ∀ x, x ∈ l → 0 ≤ x ∧ x < adj.length) ∧ (∀ l, l ∈ out → l.length ≤ 1000) := by
 have hk : ∀ l, l ∈ out → l.Pairwise (· < ·) ∧ ∀ x, x ∈ l → 0 ≤ x ∧ x < adj.length := by
  intro l hl
  obtain ⟨k, hk⟩ := List.mem_iff_getElem?.1 hl
  have := h.lst k l (by rw [List.getElem?_append_left (List.getElem?_eq_some_iff.1 hk).1]; exact hk)
  exact ⟨this.1, this.2.1⟩
 refine ⟨?_, h.count, h.ne, fun l hl => (hk l hl).2, fun l hl => ?_⟩
 ·have h1 := (h.rt root hr).2 rfl
  have h2 := h.lev_le root hr
  omega
 ·have := asc_len (hk l hl).1 (hk l hl).2
  omega

theorem peripheral_ok {adj : List (List Int)} (hG : Gr adj) (hn : adj.length ≤ 30) {v : Nat} (hv : v < adj.length) {a : List (List Int)} (ha : graph_levels adj (v : Int) = some a) :
  Ret (graph_Peripheral adj (v : Int)) (fun p => ∃ (q : Nat) (b r : List (List Int)) (w : Int), p = (q : Int) ∧ q < adj.length ∧ p ∈ a.flatten ∧ graph_levels adj p = some b ∧ a.length ≤ b.length ∧ farR adj b = some w ∧ graph_levels adj w = some r ∧ r.length ≤ b.length) := by
 obtain ⟨a', lev, seen, c, h1, h2, h3, h4⟩ := levels_cls hG hn hv
 rw [ha] at h1
 obtain rfl := Option.some.inj h1
 have hchk := graphCheck_ok hG (show adj.length ≤ 200 by omega)
 unfold graph_Peripheral graph_vertex
 rw [bindS hchk]
 have e1 : ¬ (v : Int) < 0 := by omega
 have e2 : (v : Int) < (adj.length : Int) := by omega
 simp only [if_pos, Option.bind_some]
 have e3 : (0 : Int) ≤ (v : Int) := by omega
 simp only [e2, e3, decide_true, Bool.and_self, Bool.not_true, Bool.false_eq_true, if_false, ha, Option.bind_some, ret_bind, ret_some]
 refine ret_loop adj.length (fun k (s : Int × List (List Int)) => ∃ q : Nat, s.1 = (q : Int) ∧ q < adj.length ∧ s.1 ∈ a.flatten ∧ graph_levels adj s.1 = some s.2 ∧ a.length ≤ s.2.length ∧ k ≤ s.2.length) ⟨v, rfl, hv, (h4 _).2 h3.mem, ha, by simp, by simp⟩ ?_
 rintro k ⟨p, now⟩ hk ⟨q, rfl, hq, hpa, hnow, hla, hkn⟩
 simp only at hpa hnow hla hkn
 obtain ⟨now', lev', seen', c', g1, g2, g3, g4⟩ := levels_cls hG hn hq
 rw [hnow] at g1
 obtain rfl := Option.some.inj g1
 obtain ⟨p1, p2, p3, p4, p5⟩ := bf_pre g2 hq hn
 obtain ⟨w, w1, w2, w3, w4⟩ := far_ok p1 (by omega) p3 p4 p5
 obtain ⟨u, rfl⟩ := Int.eq_ofNat_of_zero_le w3
 have hu : u < adj.length := by omega
 obtain ⟨r, lev2, seen2, c2, k1, k2, k3, k4⟩ := levels_cls hG hn hu
 obtain ⟨_, q2, _⟩ := bf_pre k2 hu hn
 have hua : (u : Int) ∈ a.flatten := by
  rw [h4]
  exact g3.min (fun x => (x : Int) ∈ c) ((h4 _).1 hpa) (fun v w _ hs hnb => h3.clo v w hs hnb) u ((g4 _).1 w2)
 rw [per_step w1 k1]
 simp only [ret_if, ret_some, vq_l, vq_r]
 exact ⟨fun h => ⟨q, now, r, u, rfl, hq, hpa, hnow, hla, w1, k1, by omega⟩, fun h => ⟨by omega, u, rfl, hu, hua, k1, by omega, by omega⟩⟩

end Pl
/- Graphs as tables: making, joining, listing; what some vertices induce. -/
set_option linter.unusedSimpArgs false
set_option linter.unusedVariables false
namespace Pl
open Sx Go M Vc

/-- a table of a relation -/
def Tr (T : List (List Bool)) (n : Nat) (R : Nat → Nat → Prop) : Prop := T.length = n ∧ ∀ i, i < n → ∃ r, T[i]? = some r ∧ r.length = n ∧ ∀ j, j < n → ∃ b : Bool, r[j]? = some b ∧ (b = true ↔ R i j)
theorem Tr.congr {T : List (List Bool)} {n : Nat} {R R' : Nat → Nat → Prop} (h : ∀ i j, i < n → j < n → (R i j ↔ R' i j)) (hT : Tr T n R) : Tr T n R' := by
 refine ⟨hT.1, fun i hi => ?_⟩
 obtain ⟨r, h1, h2, h3⟩ := hT.2 i hi
 exact ⟨r, h1, h2, fun j hj => by obtain ⟨b, h4, h5⟩ := h3 j hj; exact ⟨b, h4, by rw [h5, h i j hi hj]⟩⟩
theorem Tr.row {T : List (List Bool)} {n : Nat} {R : Nat → Nat → Prop} (hT : Tr T n R) {i : Nat} (hi : i < n) : ∃ r, getI T (i : Int) = some r ∧ T[i]? = some r ∧ r.length = n ∧ ∀ j : Nat, j < n → ∃ b : Bool, getI r (j : Int) = some b ∧ (b = true ↔ R i j) := by
 obtain ⟨r, h1, h2, h3⟩ := hT.2 i hi
 exact ⟨r, h1, h1, h2, fun j hj => h3 j hj⟩
theorem Tr.put {T : List (List Bool)} {n : Nat} {R : Nat → Nat → Prop} (hT : Tr T n R) {i j : Nat} (hi : i < n) {r : List Bool} (hr : T[i]? = some r) {z : Bool} {p : Prop} (hz : z = true ↔ p) : Tr (T.set i (r.set j z)) n (fun a c => (a = i ∧ c = j ∧ p) ∨ (¬ (a = i ∧ c = j) ∧ R a c)) := by
 refine ⟨by simp [hT.1], fun a ha => ?_⟩
 obtain ⟨r', h1, h2, h3⟩ := hT.2 a ha
 by_cases hai : i = a
 ·subst hai
  rw [hr] at h1
  obtain rfl := Option.some.inj h1
  refine ⟨r.set j z, by rw [List.getElem?_set, if_pos rfl, if_pos (by rw [hT.1]; exact ha)], by simp [h2], fun c hc => ?_⟩
  obtain ⟨b, h4, h5⟩ := h3 c hc
  rw [List.getElem?_set]
  by_cases hcj : j = c
  ·subst hcj
   exact ⟨z, by rw [if_pos rfl, if_pos (by omega)], by rw [hz]; simp⟩
  ·exact ⟨b, by rw [if_neg hcj, h4], by rw [h5]; simp [show ¬ c = j from fun h => hcj h.symm]⟩
 ·refine ⟨r', by rw [List.getElem?_set, if_neg hai, h1], h2, fun c hc => ?_⟩
  obtain ⟨b, h4, h5⟩ := h3 c hc
  exact ⟨b, h4, by rw [h5]; simp [show ¬ a = i from fun h => hai h.symm]⟩
theorem Tr.on {T : List (List Bool)} {n : Nat} {R : Nat → Nat → Prop} (hT : Tr T n R) {i j : Nat} (hi : i < n) {r : List Bool} (hr : T[i]? = some r) : Tr (T.set i (r.set j true)) n (fun a c => (a = i ∧ c = j) ∨ R a c) := by
 refine Tr.congr (fun a c _ _ => ?_) (hT.put (j := j) hi hr (z := true) (p := True) (by simp))
 by_cases h : a = i ∧ c = j
 ·simp [h]
 ·simp [h]
open Classical in
theorem Tr.tb {T : List (List Bool)} {n : Nat} {R : Nat → Nat → Prop} (hT : Tr T n R) : Tb T n (fun i j => decide (R i j)) := by
 refine ⟨hT.1, fun i hi => ?_⟩
 obtain ⟨r, h1, h2, h3⟩ := hT.2 i hi
 refine ⟨r, h1, h2, fun j hj => ?_⟩
 obtain ⟨b, h4, h5⟩ := h3 j hj
 rw [h4]
 congr 1
 cases b with
 | true => symm; rw [decide_eq_true_iff]; exact h5.1 rfl
 | false => symm; rw [decide_eq_false_iff_not]; intro h; have := h5.2 h; cases this

/-- l[i] and l[j] are neighbours -/
def IJ (adj : List (List Int)) (l : List Int) (i j : Nat) : Prop := ∃ (x y : Int), l[i]? = some x ∧ l[j]? = some y ∧ nbp adj x.toNat y.toNat
theorem IJ.sym {adj : List (List Int)} (hG : Gr adj) {l : List Int} {i j : Nat} (h : IJ adj l i j) : IJ adj l j i := by
 obtain ⟨x, y, h1, h2, h3⟩ := h
 exact ⟨y, x, h2, h1, nbp_sym hG h3⟩
theorem IJ.ne {adj : List (List Int)} (hG : Gr adj) {l : List Int} {i : Nat} (h : IJ adj l i i) : False := by
 obtain ⟨x, y, h1, h2, l', h3, h4⟩ := h
 rw [h1] at h2
 obtain rfl := Option.some.inj h2
 have := (hG.rng _ _ _ h3 h4).2.2
 omega

end Pl
/- Orders; that nothing stands twice. -/
set_option linter.unusedSimpArgs false
set_option linter.unusedVariables false
namespace Pl
open Sx Go M Vc

/-- a permutation of 0 to n - 1 -/
structure Pm (l : List Int) (n : Nat) : Prop where
 len : l.length = n
 nd : l.Nodup
 rng : ∀ x, x ∈ l → 0 ≤ x ∧ x < (n : Int)

end Pl
/- Orders made from numbers; relabelling by the program and by the document. -/
set_option linter.unusedSimpArgs false
set_option linter.unusedVariables false
namespace Pl
open Sx Go M Vc


end Pl
/- The document's peripheral vertices and components; the law of the graphs made from numbers. -/
set_option linter.unusedSimpArgs false
set_option linter.unusedVariables false
namespace Pl
open Sx Go M Vc

/-- two loops that go in step -/
theorem loopN_sim {σ τ ρ ρ' : Type} {step1 : σ → Option (σ ⊕ ρ)} {step2 : τ → Option (τ ⊕ ρ')} (R : σ → τ → Prop) (Q : ρ → ρ' → Prop)
  (h : ∀ s t, R s t → (∀ s', step1 s = some (.inl s') → ∃ t', step2 t = some (.inl t') ∧ R s' t') ∧ (∀ o, step1 s = some (.inr o) → ∃ o', step2 t = some (.inr o') ∧ Q o o')) :
  ∀ (k : Nat) (s : σ) (t : τ) (o : ρ), R s t → loopN step1 k s = some o → ∃ o', loopN step2 k t = some o' ∧ Q o o' := by
 intro k
 induction k with
 | zero => intro s t o _ h; simp [loopN] at h
 | succ k ih =>
  intro s t o hR ho
  simp only [loopN] at ho
  cases hs : step1 s with
  | none => rw [hs] at ho; cases ho
  | some r =>
   rw [hs] at ho
   cases r with
   | inl s' =>
    obtain ⟨t', h1, h2⟩ := (h s t hR).1 s' hs
    obtain ⟨o', h3, h4⟩ := ih s' t' o h2 ho
    exact ⟨o', by simp [loopN, h1, h3], h4⟩
   | inr o1 =>
    obtain rfl := Option.some.inj ho
    obtain ⟨o', h1, h2⟩ := (h s t hR).2 o1 hs
    exact ⟨o', by simp [loopN, h1], h2⟩
theorem loop_sim {σ τ ρ ρ' : Type} {step1 : σ → Option (σ ⊕ ρ)} {step2 : τ → Option (τ ⊕ ρ')} (R : σ → τ → Prop) (Q : ρ → ρ' → Prop) {s : σ} {t : τ} {o : ρ} (hR : R s t)
  (h : ∀ s t, R s t → (∀ s', step1 s = some (.inl s') → ∃ t', step2 t = some (.inl t') ∧ R s' t') ∧ (∀ o, step1 s = some (.inr o) → ∃ o', step2 t = some (.inr o') ∧ Q o o')) (ho : loop step1 s = some o) : ∃ o', loop step2 t = some o' ∧ Q o o' :=
 loopN_sim R Q h FUEL s t o hR ho

def dg (adj : List (List Int)) (u : Int) : Nat := (adj[u.toNat]?.getD []).length
def bst (adj : List (List Int)) : Int → List Int → Int
 | w, [] => w
 | w, u :: r => bst adj (if dg adj u < dg adj w then u else w) r
theorem dg_get {adj : List (List Int)} {u : Int} (h : 0 ≤ u ∧ u < adj.length) : ∃ l, getI adj u = some l ∧ l.length = dg adj u := by
 have hu : u.toNat < adj.length := by omega
 refine ⟨adj[u.toNat], getI_of h.1 (by simp [hu]), by simp [dg, hu]⟩
theorem drop_at {l : List Int} {k : Nat} (h : k < l.length) : l.drop k = l[k] :: l.drop (k + 1) := by rw [List.drop_eq_getElem_cons h]

theorem bst_p {adj : List (List Int)} {l : List Int} (hl : l.length ≤ 1000) (hr : ∀ x, x ∈ l → 0 ≤ x ∧ x < adj.length) {w : Int} (hw : 0 ≤ w ∧ w < adj.length) : loop (graph_Peripheral_l13 l adj) (w, 0) = some (bst adj w l) := by
 refine Ret.eq ?_
 refine ret_loop l.length (fun k (s : Int × Int) => s.2 = k ∧ (0 ≤ s.1 ∧ s.1 < adj.length) ∧ bst adj s.1 (l.drop k) = bst adj w l) ⟨rfl, hw, rfl⟩ ?_
 rintro k ⟨s, i⟩ hk ⟨rfl, hs, hb⟩
 simp only at hs hb
 unfold graph_Peripheral_l13 graph_Peripheral_j14
 by_cases hkl : k < l.length
 ·have hx := hr _ (List.getElem_mem hkl)
  obtain ⟨a, a1, a2⟩ := dg_get hx
  obtain ⟨b, b1, b2⟩ := dg_get hs
  have e1 : getI l (k : Int) = some l[k] := getI_lt hkl
  have e5 : (k : Int) < (l.length : Int) := by omega
  have hw1 : wa .i64 (k : Int) 1 = ((k + 1 : Nat) : Int) := wa1 (by omega)
  rw [drop_at hkl, bst] at hb
  simp only [ret_bind, ret_if, ret_get, ret_set, ret_app, ret_mkL, ret_sli, ret_wr, ret_wq, ret_some, vq_l, vq_r, Int.toNat_natCast, if_true, if_false, obs, decide_false, decide_true, Bool.false_eq_true, Bool.not_true, Bool.not_false, not_true_eq_false, not_false_eq_true, true_implies, false_implies, reduceCtorEq, e1, e5, a1, b1, hw1, a2, b2]
  refine ⟨fun h => ⟨hkl, trivial, hx, ?_⟩, fun h => ⟨hkl, trivial, hs, ?_⟩⟩
  ·rw [if_pos (by omega)] at hb; exact hb
  ·rw [if_neg (by omega)] at hb; exact hb
 ·have e5 : ¬ (k : Int) < (l.length : Int) := by omega
  simp only [ret_bind, ret_if, ret_get, ret_set, ret_app, ret_mkL, ret_sli, ret_wr, ret_wq, ret_some, vq_l, vq_r, Int.toNat_natCast, if_true, if_false, obs, decide_false, decide_true, Bool.false_eq_true, Bool.not_true, Bool.not_false, not_true_eq_false, not_false_eq_true, true_implies, false_implies, reduceCtorEq, e5]
  rw [List.drop_of_length_le (by omega)] at hb
  exact hb
theorem bst_r {adj : List (List Int)} {l : List Int} (hl : l.length ≤ 1000) (hr : ∀ x, x ∈ l → 0 ≤ x ∧ x < adj.length) (hne : 0 < l.length) : loop (sparseref12_Peripheral_l14 l adj) (l[0], 1) = some (bst adj l[0] l) := by
 refine Ret.eq ?_
 have h0 : bst adj l[0] (l.drop 0) = bst adj l[0] (l.drop 1) := by
  rw [drop_at hne]
  show bst adj (if dg adj l[0] < dg adj l[0] then l[0] else l[0]) _ = _
  rw [if_neg (by omega)]
 rw [List.drop_zero] at h0
 refine ret_loop l.length (fun k (s : Int × Int) => s.2 = ((k + 1 : Nat) : Int) ∧ (0 ≤ s.1 ∧ s.1 < adj.length) ∧ bst adj s.1 (l.drop (k + 1)) = bst adj l[0] l) ⟨rfl, hr _ (List.getElem_mem hne), h0.symm⟩ ?_
 rintro k ⟨s, i⟩ hk ⟨h, hs, hb⟩
 simp only at h hs hb
 subst h
 unfold sparseref12_Peripheral_l14 sparseref12_Peripheral_j15
 by_cases hkl : k + 1 < l.length
 ·have hx := hr _ (List.getElem_mem hkl)
  obtain ⟨a, a1, a2⟩ := dg_get hx
  obtain ⟨b, b1, b2⟩ := dg_get hs
  have e1 : getI l ((k + 1 : Nat) : Int) = some l[k + 1] := getI_lt hkl
  have e5 : ((k + 1 : Nat) : Int) < (l.length : Int) := by omega
  have hw1 : wa .i64 ((k + 1 : Nat) : Int) 1 = ((k + 1 + 1 : Nat) : Int) := wa1 (by omega)
  rw [drop_at hkl, bst] at hb
  simp only [ret_bind, ret_if, ret_get, ret_set, ret_app, ret_mkL, ret_sli, ret_wr, ret_wq, ret_some, vq_l, vq_r, Int.toNat_natCast, if_true, if_false, obs, decide_false, decide_true, Bool.false_eq_true, Bool.not_true, Bool.not_false, not_true_eq_false, not_false_eq_true, true_implies, false_implies, reduceCtorEq, e1, e5, a1, b1, hw1, a2, b2]
  refine ⟨fun h => ⟨by omega, trivial, hx, ?_⟩, fun h => ⟨by omega, trivial, hs, ?_⟩⟩
  ·rw [if_pos (by omega)] at hb; exact hb
  ·rw [if_neg (by omega)] at hb; exact hb
 ·have e5 : ¬ ((k + 1 : Nat) : Int) < (l.length : Int) := by omega
  simp only [ret_bind, ret_if, ret_get, ret_set, ret_app, ret_mkL, ret_sli, ret_wr, ret_wq, ret_some, vq_l, vq_r, Int.toNat_natCast, if_true, if_false, obs, decide_false, decide_true, Bool.false_eq_true, Bool.not_true, Bool.not_false, not_true_eq_false, not_false_eq_true, true_implies, false_implies, reduceCtorEq, e5]
  rw [List.drop_of_length_le (by omega)] at hb
  exact hb

theorem far_same {adj : List (List Int)} {out : List (List Int)} (hlen : 0 < out.length) (hl2 : out.length ≤ 1000) (hne : ∀ l, l ∈ out → l ≠ []) (hr : ∀ l, l ∈ out → ∀ x, x ∈ l → 0 ≤ x ∧ x < adj.length) (hsz : ∀ l, l ∈ out → l.length ≤ 1000) {w : Int} (h : farR adj out = some w) :
  ((getI out (ws .i64 (out.length : Int) 1)).bind fun x102 => (getI x102 0).bind fun x104 => loop (sparseref12_Peripheral_l14 x102 adj) (x104, 1)) = some w := by
 unfold farR at h
 have e : ws .i64 (out.length : Int) 1 = ((out.length - 1 : Nat) : Int) := by rw [ws_i (by omega) (by omega)]; omega
 have hk : out.length - 1 < out.length := by omega
 rw [e, bindS (getI_lt hk)] at h ⊢
 have hm := List.getElem_mem hk
 generalize out[out.length - 1] = l at hm h ⊢
 have hlp := List.length_pos_iff.2 (hne l hm)
 have hll := hsz l hm
 have hg0 : getI l 0 = some l[0] := getI_lt hlp
 rw [bindS hg0] at h ⊢
 rw [bst_p hll (hr l hm) (hr l hm _ (List.getElem_mem hlp))] at h
 rw [bst_r hll (hr l hm) hlp]
 exact h

theorem rper_ok {adj : List (List Int)} (hG : Gr adj) (hn : adj.length ≤ 30) {v : Nat} (hv : v < adj.length) {p : Int} (hp : graph_Peripheral adj (v : Int) = some p) : sparseref12_Peripheral adj (v : Int) = some p := by
 have hchk := graphCheck_ok hG (show adj.length ≤ 200 by omega)
 obtain ⟨a, lev, seen, c, a1, a2, a3, a4⟩ := levels_cls hG hn hv
 unfold graph_Peripheral graph_vertex at hp
 have e2 : (v : Int) < (adj.length : Int) := by omega
 have e3 : (0 : Int) ≤ (v : Int) := by omega
 rw [bindS hchk] at hp
 simp only [e2, e3, if_pos, decide_true, Bool.and_self, Option.bind_some, Bool.not_true, Bool.false_eq_true, if_false, a1] at hp
 obtain ⟨o, ho, hp⟩ := bs hp
 obtain rfl := Option.some.inj hp
 obtain ⟨o', h1, rfl⟩ := loop_sim (step1 := graph_Peripheral_l10 adj) (step2 := sparseref12_Peripheral_l11 adj) (fun s t => t = s.1 ∧ ∃ q : Nat, s.1 = (q : Int) ∧ q < adj.length ∧ graph_levels adj s.1 = some s.2) (fun o o' => o' = o) (s := ((v : Int), a)) (t := (v : Int)) ⟨rfl, v, rfl, hv, a1⟩ (by
  rintro ⟨s, now⟩ t ⟨rfl, q, rfl, hq, hnow⟩
  simp only at hnow
  obtain ⟨now', lev', seen', c', g1, g2, g3, g4⟩ := levels_cls hG hn hq
  rw [hnow] at g1
  obtain rfl := Option.some.inj g1
  obtain ⟨p1, p2, p3, p4, p5⟩ := bf_pre g2 hq hn
  obtain ⟨w, w1, w2, w3, w4⟩ := far_ok p1 (by omega) p3 p4 p5
  obtain ⟨u, rfl⟩ := Int.eq_ofNat_of_zero_le w3
  have hu : u < adj.length := by omega
  obtain ⟨r, lev2, seen2, c2, k1, k2, k3, k4⟩ := levels_cls hG hn hu
  obtain ⟨ro, rl, rs, r1, r2⟩ := rLevels_ok hG hn hq
  obtain rfl := g2.out_eq r2
  obtain ⟨so, sl, ss, s1, s2⟩ := rLevels_ok hG hn hu
  obtain rfl := k2.out_eq s2
  have hf := far_same p1 (by omega) p3 p4 p5 w1
  have hstep : sparseref12_Peripheral_l11 adj (q : Int) = if (r.length : Int) ≤ (now.length : Int) then some (.inr (q : Int)) else some (.inl (u : Int)) := by
   unfold sparseref12_Peripheral_l11
   rw [bindS r1]
   obtain ⟨l, f1, hf⟩ := bs hf
   obtain ⟨x, f2, f3⟩ := bs hf
   rw [bindS f1, bindS f2, bindS f3, bindS s1]
  rw [per_step w1 k1, hstep]
  by_cases hc : (r.length : Int) ≤ (now.length : Int)
  ·rw [if_pos hc, if_pos hc]
   refine ⟨fun s' h => (by cases h), fun o h => ⟨_, rfl, ?_⟩⟩
   have := Option.some.inj h
   exact Sum.inr.inj this
  ·rw [if_neg hc, if_neg hc]
   refine ⟨fun s' h => ⟨_, rfl, ?_⟩, fun o h => (by cases h)⟩
   have := Sum.inl.inj (Option.some.inj h)
   subst this
   exact ⟨rfl, u, rfl, hu, k1⟩) ho
 unfold sparseref12_Peripheral
 rw [bindS (rCheck_ok hG (by omega)), if_neg (by simp; omega), bindS h1]

theorem rmark_ok {ls : List (List Int)} {n : Nat} (hl : ls.length ≤ 1000) (hs : ∀ l, l ∈ ls → l.length ≤ 1000) (hr : ∀ l, l ∈ ls → ∀ x, x ∈ l → 0 ≤ x ∧ x < (n : Int)) :
  Ret (loop (sparseref12_Components_l71 ls) (List.replicate n false, 0)) (fun t => t.length = n ∧ ∀ u : Nat, u < n → t[u]? = some (decide ((u : Int) ∈ ls.flatten))) := by
 refine ret_loop ls.length (fun k (t : List Bool × Int) => t.2 = k ∧ t.1.length = n ∧ ∀ u : Nat, u < n → t.1[u]? = some (decide ((u : Int) ∈ (ls.take k).flatten))) ⟨rfl, by simp, fun u hu => by simp [hu]⟩ ?_
 rintro k ⟨t, i⟩ hk ⟨rfl, h1, h2⟩
 simp only at h1 h2
 unfold sparseref12_Components_l71
 by_cases hkl : k < ls.length
 ·obtain ⟨l, hx⟩ : ∃ l, ls[k]? = some l := ⟨ls[k], by simp [hkl]⟩
  have hll := hs l (mem_get hx)
  have hlr := hr l (mem_get hx)
  have e1 : getI ls (k : Int) = some l := hx
  have e5 : (k : Int) < (ls.length : Int) := by omega
  have hw : wa .i64 (k : Int) 1 = ((k + 1 : Nat) : Int) := wa1 (by omega)
  simp only [ret_bind, ret_if, ret_get, ret_set, ret_app, ret_mkL, ret_sli, ret_wr, ret_wq, ret_some, vq_l, vq_r, Int.toNat_natCast, if_true, if_false, obs, decide_false, decide_true, Bool.false_eq_true, Bool.not_true, Bool.not_false, not_true_eq_false, not_false_eq_true, true_implies, false_implies, reduceCtorEq, e5, hw]
  refine ret_call (P := fun s => s.length = n ∧ ∀ u : Nat, u < n → s[u]? = some (decide ((u : Int) ∈ (ls.take k).flatten ∨ (u : Int) ∈ l))) ?_ ?_
  ·refine ret_loop l.length (fun m (s : List Bool × Int) => s.2 = m ∧ s.1.length = n ∧ ∀ u : Nat, u < n → s.1[u]? = some (decide ((u : Int) ∈ (ls.take k).flatten ∨ (u : Int) ∈ l.take m))) ⟨rfl, h1, fun u hu => by rw [h2 u hu]; simp⟩ ?_
   rintro m ⟨s, i⟩ hm ⟨rfl, s1, s2⟩
   simp only at s1 s2
   unfold sparseref12_Components_l76
   by_cases hml : m < l.length
   ·obtain ⟨x, hx⟩ : ∃ x, l[m]? = some x := ⟨l[m], by simp [hml]⟩
    have hxr := hlr x (mem_get hx)
    have e2 : getI l (m : Int) = some x := hx
    have e6 : (m : Int) < (l.length : Int) := by omega
    have hw2 : wa .i64 (m : Int) 1 = ((m + 1 : Nat) : Int) := wa1 (by omega)
    simp only [ret_bind, ret_if, ret_get, ret_set, ret_app, ret_mkL, ret_sli, ret_wr, ret_wq, ret_some, vq_l, vq_r, Int.toNat_natCast, if_true, if_false, obs, decide_false, decide_true, Bool.false_eq_true, Bool.not_true, Bool.not_false, not_true_eq_false, not_false_eq_true, true_implies, false_implies, reduceCtorEq, e1, e2, e6, hw2]
    refine ⟨hxr.1, by omega, hml, trivial, by simp [s1], fun u hu => ?_⟩
    rw [List.getElem?_set, s2 u hu]
    by_cases hxu : x.toNat = u
    ·rw [if_pos hxu, if_pos (by omega)]
     congr 1; symm
     rw [decide_eq_true_iff, mts hx]
     exact .inr (.inr (by omega))
    ·rw [if_neg hxu]
     congr 1
     rw [decide_eq_decide, mts hx]
     constructor
     ·rintro (h | h)
      ·exact .inl h
      ·exact .inr (.inl h)
     ·rintro (h | h | h)
      ·exact .inl h
      ·exact .inr h
      ·omega
   ·have e6 : ¬ (m : Int) < (l.length : Int) := by omega
    simp only [ret_bind, ret_if, ret_get, ret_set, ret_app, ret_mkL, ret_sli, ret_wr, ret_wq, ret_some, vq_l, vq_r, Int.toNat_natCast, if_true, if_false, obs, decide_false, decide_true, Bool.false_eq_true, Bool.not_true, Bool.not_false, not_true_eq_false, not_false_eq_true, true_implies, false_implies, reduceCtorEq, e1, e6]
    exact ⟨s1, fun u hu => by rw [s2 u hu, take_all (l := l) (by omega)]⟩
  ·rintro s ⟨s1, s2⟩
   refine ⟨hkl, trivial, s1, fun u hu => ?_⟩
   rw [s2 u hu]
   congr 1
   rw [decide_eq_decide, tks hx, List.flatten_append]
   simp
 ·have e5 : ¬ (k : Int) < (ls.length : Int) := by omega
  simp only [ret_bind, ret_if, ret_get, ret_set, ret_app, ret_mkL, ret_sli, ret_wr, ret_wq, ret_some, vq_l, vq_r, Int.toNat_natCast, if_true, if_false, obs, decide_false, decide_true, Bool.false_eq_true, Bool.not_true, Bool.not_false, not_true_eq_false, not_false_eq_true, true_implies, false_implies, reduceCtorEq, e5]
  exact ⟨h1, fun u hu => by rw [h2 u hu, take_all (by omega)]⟩

theorem rcoll_ok {adj : List (List Int)} (hn : adj.length ≤ 1000) {seen t : List Bool} {tm : Nat → Prop} [DecidablePred tm] (hs : seen.length = adj.length) (ht : ∀ u : Nat, u < adj.length → t[u]? = some (decide (tm u))) :
  Ret (loop (sparseref12_Components_l74 adj t) (seen, [], 0)) (fun s => s.1.length = adj.length ∧ s.2 = coll tm adj.length ∧ ∀ u : Nat, u < adj.length → s.1[u]? = if tm u then some true else seen[u]?) := by
 refine ret_loop adj.length (fun k (s : List Bool × List Int × Int) => s.2.2 = k ∧ s.1.length = adj.length ∧ s.2.1 = coll tm k ∧ ∀ u : Nat, u < adj.length → s.1[u]? = if u < k ∧ tm u then some true else seen[u]?) ⟨rfl, hs, rfl, fun u hu => by simp⟩ ?_
 rintro k ⟨s, c, i⟩ hk ⟨h, h1, h2, h3⟩
 simp only at h h1 h2 h3
 subst h h2
 have hcl := coll_len (tm := tm) k
 unfold sparseref12_Components_l74 sparseref12_Components_j75
 by_cases hkl : k < adj.length
 ·have e1 : getI t (k : Int) = some (decide (tm k)) := ht k hkl
  have e5 : (k : Int) < (adj.length : Int) := by omega
  have hw : wa .i64 (k : Int) 1 = ((k + 1 : Nat) : Int) := wa1 (by omega)
  simp only [ret_bind, ret_if, ret_get, ret_set, ret_app, ret_mkL, ret_sli, ret_wr, ret_wq, ret_some, vq_l, vq_r, Int.toNat_natCast, if_true, if_false, obs, decide_false, decide_true, Bool.false_eq_true, Bool.not_true, Bool.not_false, not_true_eq_false, not_false_eq_true, true_implies, false_implies, reduceCtorEq, e1, e5, hw, decide_eq_true_eq]
  refine ⟨fun h => ⟨by simp; omega, by omega, by omega, hkl, trivial, by simp [h1], by rw [coll, if_pos h], fun u hu => ?_⟩, fun h => ⟨hkl, trivial, h1, by rw [coll, if_neg h, List.append_nil], fun u hu => ?_⟩⟩
  ·rw [List.getElem?_set]
   by_cases hku : k = u
   ·subst hku; rw [if_pos rfl, if_pos (by omega), if_pos ⟨by omega, h⟩]
   ·rw [if_neg hku, h3 u hu]
    by_cases hc : u < k ∧ tm u
    ·rw [if_pos hc, if_pos ⟨by omega, hc.2⟩]
    ·rw [if_neg hc, if_neg (fun hh => hc ⟨by omega, hh.2⟩)]
  ·rw [h3 u hu]
   by_cases hc : u < k ∧ tm u
   ·rw [if_pos hc, if_pos ⟨by omega, hc.2⟩]
   ·rw [if_neg hc, if_neg]
    rintro ⟨h4, h5⟩
    by_cases huk : u = k
    ·subst huk; exact h h5
    ·exact hc ⟨by omega, h5⟩
 ·have e5 : ¬ (k : Int) < (adj.length : Int) := by omega
  have : k = adj.length := by omega
  subst this
  simp only [ret_bind, ret_if, ret_get, ret_set, ret_app, ret_mkL, ret_sli, ret_wr, ret_wq, ret_some, vq_l, vq_r, Int.toNat_natCast, if_true, if_false, obs, decide_false, decide_true, Bool.false_eq_true, Bool.not_true, Bool.not_false, not_true_eq_false, not_false_eq_true, true_implies, false_implies, reduceCtorEq, e5]
  refine ⟨h1, trivial, fun u hu => ?_⟩
  rw [h3 u hu]
  simp [hu]

open Classical in
theorem rcomponents_ok {adj : List (List Int)} (hG : Gr adj) (hn : adj.length ≤ 30) : ∃ out, sparseref12_Components adj = some out ∧ CS adj adj.length out := by
 have : Ret (sparseref12_Components adj) (fun out => CS adj adj.length out) := by
  unfold sparseref12_Components
  rw [bindS (rCheck_ok hG (by omega)), if_pos rfl, bindS (mkL_nat false adj.length (by omega))]
  simp only [ret_bind, ret_some]
  refine ret_loop adj.length (fun k (t : List Bool × List (List Int) × Int) => t.2.2 = k ∧ CS adj k t.2.1 ∧ t.1.length = adj.length ∧ ∀ u : Nat, u < adj.length → t.1[u]? = some (decide (∃ c, c ∈ t.2.1 ∧ (u : Int) ∈ c))) ⟨rfl, ⟨by simp, by simp, by simp, by simp, by simp⟩, by simp, fun u hu => by simp [hu]⟩ ?_
  rintro k ⟨seen, out, i⟩ hk ⟨rfl, hC, hl, hs⟩
  simp only at hC hl hs
  unfold sparseref12_Components_l51 sparseref12_Components_j68
  by_cases hkn : k < adj.length
  ·have e1 : getI seen (k : Int) = some (decide (∃ c, c ∈ out ∧ (k : Int) ∈ c)) := hs k hkn
   have e5 : (k : Int) < (adj.length : Int) := by omega
   have hw : wa .i64 (k : Int) 1 = ((k + 1 : Nat) : Int) := wa1 (by omega)
   obtain ⟨o, lev, sn, c, c1, c2, c3, c4⟩ := levels_cls hG hn hkn
   obtain ⟨o', lev', sn', r1, r2⟩ := rLevels_ok hG hn hkn
   obtain rfl := c2.out_eq r2
   obtain ⟨p1, p2, p3, p4, p5⟩ := bf_pre c2 hkn hn
   simp only [ret_bind, ret_if, ret_get, ret_set, ret_app, ret_mkL, ret_sli, ret_wr, ret_wq, ret_some, vq_l, vq_r, Int.toNat_natCast, if_true, if_false, obs, decide_false, decide_true, Bool.false_eq_true, Bool.not_true, Bool.not_false, not_true_eq_false, not_false_eq_true, true_implies, false_implies, reduceCtorEq, e1, e5, hw, decide_eq_true_eq]
   refine ⟨fun h => ⟨hkn, trivial, hC.next h, hl, hs⟩, fun hno => ?_⟩
   rw [ret_of r1]
   refine ⟨by omega, by omega, ?_⟩
   refine ret_call (rmark_ok (by omega) p5 p4) ?_
   rintro t ⟨t1, t2⟩
   refine ret_call (rcoll_ok (by omega) hl t2) ?_
   rintro ⟨s, c'⟩ ⟨s1, s2, s3⟩
   simp only at s1 s2 s3
   have hcc : c' = c := by
    rw [s2]
    refine asc_unique (coll_asc _) c3.asc fun x => ?_
    rw [coll_mem]
    constructor
    ·rintro ⟨h1, h2, h3⟩
     rw [c4] at h3
     rwa [show ((x.toNat : Nat) : Int) = x by omega] at h3
    ·intro hx
     have := c3.rng x hx
     refine ⟨this.1, by omega, ?_⟩
     rw [c4, show ((x.toNat : Nat) : Int) = x by omega]
     exact hx
   have hcl2 := hC.len
   refine ⟨by simp; omega, hkn, trivial, by rw [hcc]; exact hC.push hG hno c3, s1, fun u hu => ?_⟩
   simp only [hcc]
   rw [s3 u hu, hs u hu]
   by_cases huc : (u : Int) ∈ c
   ·rw [if_pos ((c4 _).2 huc)]
    congr 1; symm
    rw [decide_eq_true_iff]
    exact ⟨c, by simp, huc⟩
   ·rw [if_neg (fun h => huc ((c4 _).1 h))]
    congr 1
    rw [decide_eq_decide]
    constructor
    ·rintro ⟨c', h1, h2⟩; exact ⟨c', by simp [h1], h2⟩
    ·rintro ⟨c', h1, h2⟩
     rw [List.mem_append, List.mem_singleton] at h1
     rcases h1 with h1 | rfl
     ·exact ⟨c', h1, h2⟩
     ·exact absurd h2 huc
  ·have e5 : ¬ (k : Int) < (adj.length : Int) := by omega
   have : k = adj.length := by omega
   subst this
   simp only [ret_bind, ret_if, ret_get, ret_set, ret_app, ret_mkL, ret_sli, ret_wr, ret_wq, ret_some, vq_l, vq_r, Int.toNat_natCast, if_true, if_false, obs, decide_false, decide_true, Bool.false_eq_true, Bool.not_true, Bool.not_false, not_true_eq_false, not_false_eq_true, true_implies, false_implies, reduceCtorEq, e5]
   exact hC
 exact this

theorem CS.uniq {adj : List (List Int)} (hG : Gr adj) {out out' : List (List Int)} (h : CS adj adj.length out) (h' : CS adj adj.length out') : out = out' := by
 have key : ∀ {out out' : List (List Int)}, CS adj adj.length out → CS adj adj.length out' → ∀ c, c ∈ out → c ∈ out' := by
  intro out out' h h' c hc
  obtain ⟨r, r1, r2, r3⟩ := h.cls c hc
  obtain ⟨c', k1, k2⟩ := h'.all r r1
  obtain ⟨r', q1, q2, q3⟩ := h'.cls c' k1
  have a1 : ∀ u : Nat, (u : Int) ∈ c → (u : Int) ∈ c' := r2.min (fun u => (u : Int) ∈ c') k2 (fun v w _ hv hw => q2.clo v w hv hw)
  have a2 : (r' : Int) ∈ c := by
   refine Classical.byContradiction fun hno => ?_
   exact q2.min (fun u => ¬ (u : Int) ∈ c) hno (fun v w _ hv hw hwc => hv (r2.clo w v hwc (nbp_sym hG hw))) r k2 r2.mem
  have a3 : ∀ u : Nat, (u : Int) ∈ c' → (u : Int) ∈ c := q2.min (fun u => (u : Int) ∈ c) a2 (fun v w _ hv hw => r2.clo v w hv hw)
  have : c = c' := asc_unique r2.asc q2.asc fun x => by
   constructor
   ·intro hx
    have := r2.rng x hx
    have := a1 x.toNat (by rwa [show ((x.toNat : Nat) : Int) = x by omega])
    rwa [show ((x.toNat : Nat) : Int) = x by omega] at this
   ·intro hx
    have := q2.rng x hx
    have := a3 x.toNat (by rwa [show ((x.toNat : Nat) : Int) = x by omega])
    rwa [show ((x.toNat : Nat) : Int) = x by omega] at this
  rw [this]; exact k1
 have hd : ∀ {out : List (List Int)}, CS adj adj.length out → (out.map fun c => c.headD 0).Pairwise (· < ·) := by
  intro out h
  rw [List.pairwise_map, List.pairwise_iff_getElem]
  intro i j hi hj hij
  obtain ⟨r, _, _, r3⟩ := h.cls _ (List.getElem_mem hi)
  obtain ⟨q, _, _, q3⟩ := h.cls _ (List.getElem_mem hj)
  have := List.pairwise_iff_getElem.1 h.ord i j hi hj hij _ _ r3 q3
  rw [List.headD_eq_head?_getD, List.headD_eq_head?_getD, r3, q3]
  exact this
 have hm : (out.map fun c => c.headD 0) = (out'.map fun c => c.headD 0) := asc_unique (hd h) (hd h') fun x => by
  simp only [List.mem_map]
  constructor
  ·rintro ⟨c, h1, h2⟩; exact ⟨c, key h h' c h1, h2⟩
  ·rintro ⟨c, h1, h2⟩; exact ⟨c, key h' h c h1, h2⟩
 have hlen : out.length = out'.length := by simpa using congrArg List.length hm
 apply List.ext_getElem hlen
 intro i h1 h2
 obtain ⟨r, _, r2, r3⟩ := h.cls _ (List.getElem_mem h1)
 obtain ⟨q, _, q2, q3⟩ := h'.cls _ (List.getElem_mem h2)
 have : out[i].headD 0 = out'[i].headD 0 := by
  have := congrArg (fun l => l[i]?) hm
  simpa [h1, h2] using this
 rw [List.headD_eq_head?_getD, List.headD_eq_head?_getD, r3, q3] at this
 have hrq : r = q := by simp at this; omega
 subst hrq
 exact r2.uniq q2

theorem kints_ok {l m : List Int} (hl : l.length ≤ 100000) : sparsekit_Ints l m = some (decide (l = m)) := by
 unfold sparsekit_Ints
 by_cases hlen : l.length = m.length
 ·rw [if_pos (by omega)]
  refine Ret.eq ?_
  rw [ret_bind]
  refine ret_call (P := fun o => (o = .inl () ∧ l = m) ∨ (o = .inr () ∧ l ≠ m)) ?_ ?_
  ·refine ret_loop l.length (fun k (t : Int) => t = (k : Int) ∧ l.take k = m.take k) ⟨rfl, by simp⟩ ?_
   rintro k t hk ⟨rfl, hI⟩
   unfold sparsekit_Ints_l1
   by_cases hkl : k < l.length
   ·have e1 : getI l (k : Int) = some l[k] := getI_lt hkl
    have e2 : getI m (k : Int) = some (m[k]'(by omega)) := getI_lt (by omega)
    have e5 : (k : Int) < (l.length : Int) := by omega
    have hw : wa .i64 (k : Int) 1 = ((k + 1 : Nat) : Int) := wa1 (by omega)
    simp only [ret_bind, ret_if, ret_get, ret_set, ret_app, ret_mkL, ret_sli, ret_wr, ret_wq, ret_some, vq_l, vq_r, Int.toNat_natCast, if_true, if_false, obs, decide_false, decide_true, Bool.false_eq_true, Bool.not_true, Bool.not_false, not_true_eq_false, not_false_eq_true, true_implies, false_implies, reduceCtorEq, e1, e2, e5, hw]
    refine ⟨fun h => ⟨hkl, trivial, ?_⟩, fun h => .inr ⟨trivial, fun he => h (by subst he; rfl)⟩⟩
    rw [tks (x := l[k]) (by simp [hkl]), tks (x := m[k]'(by omega)) (by simp [show k < m.length by omega]), hI, h]
   ·have e5 : ¬ (k : Int) < (l.length : Int) := by omega
    simp only [ret_bind, ret_if, ret_get, ret_set, ret_app, ret_mkL, ret_sli, ret_wr, ret_wq, ret_some, vq_l, vq_r, Int.toNat_natCast, if_true, if_false, obs, decide_false, decide_true, Bool.false_eq_true, Bool.not_true, Bool.not_false, not_true_eq_false, not_false_eq_true, true_implies, false_implies, reduceCtorEq, e5]
    refine .inl ⟨trivial, ?_⟩
    rwa [take_all (by omega), take_all (by omega)] at hI
  ·rintro o (⟨rfl, h⟩ | ⟨rfl, h⟩)
   ·rw [ret_some, decide_eq_true h]
   ·rw [ret_some, decide_eq_false h]
 ·rw [if_neg (by omega), decide_eq_false (fun h => hlen (by rw [h]))]
theorem klists_ok {l m : List (List Int)} (hl : l.length ≤ 100000) (hs : ∀ x, x ∈ l → x.length ≤ 100000) : sparsekit_Lists l m = some (decide (l = m)) := by
 unfold sparsekit_Lists
 by_cases hlen : l.length = m.length
 ·rw [if_pos (by omega)]
  refine Ret.eq ?_
  rw [ret_bind]
  refine ret_call (P := fun o => (o = .inl () ∧ l = m) ∨ (o = .inr () ∧ l ≠ m)) ?_ ?_
  ·refine ret_loop l.length (fun k (t : Int) => t = (k : Int) ∧ l.take k = m.take k) ⟨rfl, by simp⟩ ?_
   rintro k t hk ⟨rfl, hI⟩
   unfold sparsekit_Lists_l1
   by_cases hkl : k < l.length
   ·have e1 : getI l (k : Int) = some l[k] := getI_lt hkl
    have e2 : getI m (k : Int) = some (m[k]'(by omega)) := getI_lt (by omega)
    have e3 := kints_ok (l := l[k]) (m := m[k]'(by omega)) (hs _ (List.getElem_mem hkl))
    have e5 : (k : Int) < (l.length : Int) := by omega
    have hw : wa .i64 (k : Int) 1 = ((k + 1 : Nat) : Int) := wa1 (by omega)
    simp only [ret_bind, ret_if, ret_get, ret_set, ret_app, ret_mkL, ret_sli, ret_wr, ret_wq, ret_some, vq_l, vq_r, Int.toNat_natCast, if_true, if_false, obs, decide_false, decide_true, Bool.false_eq_true, Bool.not_true, Bool.not_false, not_true_eq_false, not_false_eq_true, true_implies, false_implies, reduceCtorEq, e1, e2, e3, e5, hw, decide_eq_true_eq]
    refine ⟨fun h => ⟨hkl, trivial, ?_⟩, fun h => .inr ⟨trivial, fun he => h (by subst he; rfl)⟩⟩
    rw [tks (x := l[k]) (by simp [hkl]), tks (x := m[k]'(by omega)) (by simp [show k < m.length by omega]), hI, h]
   ·have e5 : ¬ (k : Int) < (l.length : Int) := by omega
    simp only [ret_bind, ret_if, ret_get, ret_set, ret_app, ret_mkL, ret_sli, ret_wr, ret_wq, ret_some, vq_l, vq_r, Int.toNat_natCast, if_true, if_false, obs, decide_false, decide_true, Bool.false_eq_true, Bool.not_true, Bool.not_false, not_true_eq_false, not_false_eq_true, true_implies, false_implies, reduceCtorEq, e5]
    refine .inl ⟨trivial, ?_⟩
    rwa [take_all (by omega), take_all (by omega)] at hI
  ·rintro o (⟨rfl, h⟩ | ⟨rfl, h⟩)
   ·rw [ret_some, decide_eq_true h]
   ·rw [ret_some, decide_eq_false h]
 ·rw [if_neg (by omega), decide_eq_false (fun h => hlen (by rw [h]))]

end Pl
/- Both checks of a graph, valid or not. -/
set_option linter.unusedSimpArgs false
set_option linter.unusedVariables false
namespace Pu
open Pl Sx Go M Vc

def Asn (l : List Int) (n : Nat) : Prop := l.Pairwise (· < ·) ∧ ∀ x, x ∈ l → 0 ≤ x ∧ x < (n : Int)
theorem Asn.snoc {l : List Int} {x : Int} {n : Nat} : Asn (l ++ [x]) n ↔ Asn l n ∧ (∀ y, y ∈ l → y < x) ∧ 0 ≤ x ∧ x < (n : Int) := by
 unfold Asn
 rw [List.pairwise_append]
 constructor
 ·rintro ⟨⟨h1, _, h2⟩, h3⟩
  have := h3 x (by simp)
  exact ⟨⟨h1, fun y hy => h3 y (by simp [hy])⟩, fun y hy => h2 y hy x (by simp), this.1, this.2⟩
 ·rintro ⟨⟨h1, h2⟩, h3, h4, h5⟩
  refine ⟨⟨h1, List.pairwise_singleton _ _, fun y hy z hz => ?_⟩, fun y hy => ?_⟩
  ·rw [List.mem_singleton] at hz; subst hz; exact h3 y hy
  ·rw [List.mem_append, List.mem_singleton] at hy
   rcases hy with hy | rfl
   ·exact h2 y hy
   ·exact ⟨h4, h5⟩
theorem Asn.take {l : List Int} {n : Nat} (h : Asn l n) (k : Nat) : Asn (l.take k) n :=
 ⟨h.1.sublist (List.take_sublist _ _), fun x hx => h.2 x (List.mem_of_mem_take hx)⟩

theorem asc_p {l : List Int} {n : Nat} (hl : l.length ≤ 100000) : Ret (graph_ascending l (n : Int)) (fun b => (b = true ∧ Asn l n) ∨ (b = false ∧ ¬ Asn l n)) := by
 unfold graph_ascending
 simp only [ret_bind]
 refine ret_call (P := fun o => (o = .inl () ∧ Asn l n) ∨ (o = .inr () ∧ ¬ Asn l n)) ?_ ?_
 ·refine ret_loop l.length (fun k (t : Int × Int) => t.2 = k ∧ Asn (l.take k) n ∧ -1 ≤ t.1 ∧ (t.1 = -1 ∨ t.1 ∈ l.take k) ∧ ∀ y, y ∈ l.take k → y ≤ t.1) ⟨rfl, by simp [Asn], by simp, by simp, by simp⟩ ?_
  rintro k ⟨s, i⟩ hk ⟨rfl, h1, h2, h3, h4⟩
  simp only at h1 h2 h3 h4
  unfold graph_ascending_l3
  by_cases hkl : k < l.length
  ·obtain ⟨x, hx⟩ : ∃ x, l[k]? = some x := ⟨l[k], by simp [hkl]⟩
   have e1 : getI l (k : Int) = some x := hx
   have e5 : (k : Int) < (l.length : Int) := by omega
   have hw : wa .i64 (k : Int) 1 = ((k + 1 : Nat) : Int) := wa1 (by omega)
   have ht := tks hx
   by_cases hc : x ≤ s ∨ (n : Int) ≤ x
   ·have e6 : (decide (x ≤ s) || decide ((n : Int) ≤ x)) = true := by simpa using hc
    simp only [ret_bind, ret_if, ret_get, ret_set, ret_app, ret_mkL, ret_sli, ret_wr, ret_wq, ret_some, vq_l, vq_r, Int.toNat_natCast, if_true, if_false, obs, decide_false, decide_true, Bool.false_eq_true, Bool.not_true, Bool.not_false, not_true_eq_false, not_false_eq_true, true_implies, false_implies, reduceCtorEq, true_and, and_true, false_and, or_false, false_or, implies_true, e1, e5, e6, hw]
    refine fun h => ?_
    have := h.take (k + 1)
    rw [ht, Asn.snoc] at this
    obtain ⟨_, g1, g2, g3⟩ := this
    rcases hc with hc | hc
    ·rcases h3 with h3 | h3
     ·omega
     ·have := g1 s h3; omega
    ·omega
   ·have e6 : (decide (x ≤ s) || decide ((n : Int) ≤ x)) = false := by simpa using hc
    simp only [ret_bind, ret_if, ret_get, ret_set, ret_app, ret_mkL, ret_sli, ret_wr, ret_wq, ret_some, vq_l, vq_r, Int.toNat_natCast, if_true, if_false, obs, decide_false, decide_true, Bool.false_eq_true, Bool.not_true, Bool.not_false, not_true_eq_false, not_false_eq_true, true_implies, false_implies, reduceCtorEq, true_and, and_true, false_and, or_false, false_or, implies_true, e1, e5, e6, hw, ht]
    refine ⟨hkl, Asn.snoc.2 ⟨h1, fun y hy => by have := h4 y hy; omega, by omega, by omega⟩, by omega, by simp, fun y hy => ?_⟩
    rw [List.mem_append, List.mem_singleton] at hy
    rcases hy with hy | rfl
    ·have := h4 y hy; omega
    ·omega
  ·have e5 : ¬ (k : Int) < (l.length : Int) := by omega
   simp only [ret_bind, ret_if, ret_get, ret_set, ret_app, ret_mkL, ret_sli, ret_wr, ret_wq, ret_some, vq_l, vq_r, Int.toNat_natCast, if_true, if_false, obs, decide_false, decide_true, Bool.false_eq_true, Bool.not_true, Bool.not_false, not_true_eq_false, not_false_eq_true, true_implies, false_implies, reduceCtorEq, true_and, and_true, false_and, or_false, false_or, implies_true, e5]
   rw [take_all (by omega)] at h1
   exact h1
 ·rintro o (⟨rfl, h⟩ | ⟨rfl, h⟩)
  ·simp only [ret_some]; exact .inl ⟨trivial, h⟩
  ·simp only [ret_some]; exact .inr ⟨trivial, h⟩

theorem pw_snoc {l : List Int} {x : Int} : (l ++ [x]).Pairwise (· < ·) ↔ l.Pairwise (· < ·) ∧ ∀ y, y ∈ l → y < x := by
 rw [List.pairwise_append]
 constructor
 ·rintro ⟨h1, _, h2⟩; exact ⟨h1, fun y hy => h2 y hy x (by simp)⟩
 ·rintro ⟨h1, h2⟩
  exact ⟨h1, List.pairwise_singleton _ _, fun y hy z hz => by rw [List.mem_singleton] at hz; subst hz; exact h2 y hy⟩

theorem rasc_p {l : List Int} (hl : l.length ≤ 100000) : Ret (sparsekit_Ascending l) (fun b => (b = true ∧ l.Pairwise (· < ·)) ∨ (b = false ∧ ¬ l.Pairwise (· < ·))) := by
 unfold sparsekit_Ascending
 simp only [ret_bind]
 refine ret_call (P := fun o => (o = .inl () ∧ l.Pairwise (· < ·)) ∨ (o = .inr () ∧ ¬ l.Pairwise (· < ·))) ?_ ?_
 ·refine ret_loop l.length (fun k (t : Int) => t = ((k + 1 : Nat) : Int) ∧ (l.take (k + 1)).Pairwise (· < ·)) ⟨rfl, ?_⟩ ?_
  ·cases l with
   | nil => simp
   | cons a l => simp
  ·rintro k _ hk ⟨rfl, h1⟩
   unfold sparsekit_Ascending_l1
   by_cases hkl : k + 1 < l.length
   ·obtain ⟨x, hx⟩ : ∃ x, l[k + 1]? = some x := ⟨l[k + 1], by simp [hkl]⟩
    obtain ⟨y, hy⟩ : ∃ y, l[k]? = some y := ⟨l[k]'(by omega), by simp [show k < l.length by omega]⟩
    have e1 : getI l ((k + 1 : Nat) : Int) = some x := hx
    have e2 : getI l (k : Int) = some y := hy
    have e5 : ((k + 1 : Nat) : Int) < (l.length : Int) := by omega
    have hw : wa .i64 ((k + 1 : Nat) : Int) 1 = ((k + 1 + 1 : Nat) : Int) := wa1 (by omega)
    have hw2 : ws .i64 ((k + 1 : Nat) : Int) 1 = (k : Int) := by rw [ws_i] <;> omega
    have ht := tks hx
    have ht2 := tks hy
    have hyt : y ∈ l.take (k + 1) := by rw [ht2]; simp
    by_cases hc : x ≤ y
    ·simp only [ret_bind, ret_if, ret_get, ret_set, ret_app, ret_mkL, ret_sli, ret_wr, ret_wq, ret_some, vq_l, vq_r, Int.toNat_natCast, if_true, if_false, obs, decide_false, decide_true, Bool.false_eq_true, Bool.not_true, Bool.not_false, not_true_eq_false, not_false_eq_true, true_implies, false_implies, reduceCtorEq, true_and, and_true, false_and, or_false, false_or, implies_true, e1, e2, e5, hc, hw, hw2]
     refine fun h => ?_
     have := h.sublist (List.take_sublist (k + 1 + 1) l)
     rw [ht, pw_snoc] at this
     have := this.2 y hyt
     omega
    ·simp only [ret_bind, ret_if, ret_get, ret_set, ret_app, ret_mkL, ret_sli, ret_wr, ret_wq, ret_some, vq_l, vq_r, Int.toNat_natCast, if_true, if_false, obs, decide_false, decide_true, Bool.false_eq_true, Bool.not_true, Bool.not_false, not_true_eq_false, not_false_eq_true, true_implies, false_implies, reduceCtorEq, true_and, and_true, false_and, or_false, false_or, implies_true, e1, e2, e5, hc, hw, hw2]
     refine ⟨by omega, ?_⟩
     rw [ht, pw_snoc]
     refine ⟨h1, fun z hz => ?_⟩
     rw [ht2, pw_snoc] at h1
     rw [ht2, List.mem_append, List.mem_singleton] at hz
     rcases hz with hz | rfl
     ·have := h1.2 z hz; omega
     ·omega
   ·have e5 : ¬ ((k + 1 : Nat) : Int) < (l.length : Int) := by omega
    simp only [ret_bind, ret_if, ret_get, ret_set, ret_app, ret_mkL, ret_sli, ret_wr, ret_wq, ret_some, vq_l, vq_r, Int.toNat_natCast, if_true, if_false, obs, decide_false, decide_true, Bool.false_eq_true, Bool.not_true, Bool.not_false, not_true_eq_false, not_false_eq_true, true_implies, false_implies, reduceCtorEq, true_and, and_true, false_and, or_false, false_or, implies_true, e5]
    rw [take_all (by omega)] at h1
    exact h1
 ·rintro o (⟨rfl, h⟩ | ⟨rfl, h⟩)
  ·simp only [ret_some]; exact .inl ⟨trivial, h⟩
  ·simp only [ret_some]; exact .inr ⟨trivial, h⟩

theorem joined_p {adj : List (List Int)} {v : Int} {l : List Int} (hv : getI adj v = some l) (h : l.Pairwise (· < ·)) (hl : l.length ≤ 100000) (x : Int) : graph_joined adj v x = some (decide (x ∈ l)) := by
 unfold graph_joined
 rw [bindS hv]
 obtain ⟨i, h⟩ := search_ok h (by omega) x
 rw [bindS h]

/-- the first half of the check -/
def G1 (adj : List (List Int)) (k : Nat) : Prop := ∀ (v : Nat) l, v < k → adj[v]? = some l → Asn l adj.length ∧ (v : Int) ∉ l
def S1 (adj : List (List Int)) (v : Nat) (l : List Int) : Prop := ∀ x, x ∈ l → ∃ m, adj[x.toNat]? = some m ∧ (v : Int) ∈ m
def G2 (adj : List (List Int)) (k : Nat) : Prop := ∀ (v : Nat) l, v < k → adj[v]? = some l → S1 adj v l
theorem gr_iff {adj : List (List Int)} : Gr adj ↔ G1 adj adj.length ∧ G2 adj adj.length := by
 constructor
 ·intro h
  refine ⟨fun v l _ hl => ⟨⟨h.asc v l hl, fun x hx => ⟨(h.rng v l x hl hx).1, (h.rng v l x hl hx).2.1⟩⟩, fun hv => (h.rng v l v hl hv).2.2 rfl⟩, fun v l _ hl x hx => h.sym v l x hl hx⟩
 ·rintro ⟨h1, h2⟩
  have hlt : ∀ (v : Nat) l, adj[v]? = some l → v < adj.length := fun v l hl => (List.getElem?_eq_some_iff.1 hl).1
  refine ⟨fun v l hl => (h1 v l (hlt v l hl) hl).1.1, fun v l x hl hx => ?_, fun v l x hl hx => h2 v l (hlt v l hl) hl x hx⟩
  have := h1 v l (hlt v l hl) hl
  refine ⟨(this.1.2 x hx).1, (this.1.2 x hx).2, ?_⟩
  rintro rfl
  exact this.2 hx

def Sml (adj : List (List Int)) : Prop := adj.length ≤ 100000 ∧ ∀ l, l ∈ adj → l.length ≤ 100000

theorem gcheck_p {adj : List (List Int)} (hn : adj.length ≤ 200) (hs : Sml adj) : Ret (graph_Check adj) (fun e => (e = 0 ∧ Gr adj) ∨ (e = 1 ∧ ¬ Gr adj)) := by
 unfold graph_Check
 rw [if_neg (by omega)]
 simp only [ret_bind]
 refine ret_call (P := fun o => (o = .inl () ∧ G1 adj adj.length) ∨ (o = .inr () ∧ ¬ Gr adj)) ?_ ?_
 ·refine ret_loop adj.length (fun k (t : Int) => t = k ∧ G1 adj k) ⟨rfl, fun v l h => by omega⟩ ?_
  rintro k _ hk ⟨rfl, h1⟩
  unfold graph_Check_l3
  by_cases hkl : k < adj.length
  ·obtain ⟨l, hx⟩ : ∃ l, adj[k]? = some l := ⟨adj[k], by simp [hkl]⟩
   have e1 : getI adj (k : Int) = some l := hx
   have e5 : (k : Int) < (adj.length : Int) := by omega
   have hw : wa .i64 (k : Int) 1 = ((k + 1 : Nat) : Int) := wa1 (by omega)
   simp only [ret_bind, ret_if, ret_get, ret_set, ret_app, ret_mkL, ret_sli, ret_wr, ret_wq, ret_some, vq_l, vq_r, Int.toNat_natCast, if_true, if_false, obs, decide_false, decide_true, Bool.false_eq_true, Bool.not_true, Bool.not_false, not_true_eq_false, not_false_eq_true, true_implies, false_implies, reduceCtorEq, true_and, and_true, false_and, or_false, false_or, implies_true, e1, e5]
   refine ret_call (asc_p (hs.2 l (mem_get hx))) ?_
   rintro b (⟨rfl, ha⟩ | ⟨rfl, ha⟩)
   ·have e2 := joined_p e1 ha.1 (hs.2 l (mem_get hx)) (k : Int)
    by_cases hm : (k : Int) ∈ l
    ·simp only [ret_bind, ret_if, ret_get, ret_set, ret_app, ret_mkL, ret_sli, ret_wr, ret_wq, ret_some, vq_l, vq_r, Int.toNat_natCast, if_true, if_false, obs, decide_false, decide_true, Bool.false_eq_true, Bool.not_true, Bool.not_false, not_true_eq_false, not_false_eq_true, true_implies, false_implies, reduceCtorEq, true_and, and_true, false_and, or_false, false_or, implies_true, e2, hm]
     refine fun h => ?_
     exact (h.rng k l k hx hm).2.2 rfl
    ·simp only [ret_bind, ret_if, ret_get, ret_set, ret_app, ret_mkL, ret_sli, ret_wr, ret_wq, ret_some, vq_l, vq_r, Int.toNat_natCast, if_true, if_false, obs, decide_false, decide_true, Bool.false_eq_true, Bool.not_true, Bool.not_false, not_true_eq_false, not_false_eq_true, true_implies, false_implies, reduceCtorEq, true_and, and_true, false_and, or_false, false_or, implies_true, e2, hm, hw]
     refine ⟨hkl, fun v l' hv hl' => ?_⟩
     by_cases hvk : v = k
     ·subst hvk
      rw [hx] at hl'
      obtain rfl := Option.some.inj hl'
      exact ⟨ha, hm⟩
     ·exact h1 v l' (by omega) hl'
   ·simp only [ret_bind, ret_if, ret_get, ret_set, ret_app, ret_mkL, ret_sli, ret_wr, ret_wq, ret_some, vq_l, vq_r, Int.toNat_natCast, if_true, if_false, obs, decide_false, decide_true, Bool.false_eq_true, Bool.not_true, Bool.not_false, not_true_eq_false, not_false_eq_true, true_implies, false_implies, reduceCtorEq, true_and, and_true, false_and, or_false, false_or, implies_true]
    refine fun h => ha ?_
    exact ((gr_iff.1 h).1 k l hkl hx).1
  ·have e5 : ¬ (k : Int) < (adj.length : Int) := by omega
   simp only [ret_bind, ret_if, ret_get, ret_set, ret_app, ret_mkL, ret_sli, ret_wr, ret_wq, ret_some, vq_l, vq_r, Int.toNat_natCast, if_true, if_false, obs, decide_false, decide_true, Bool.false_eq_true, Bool.not_true, Bool.not_false, not_true_eq_false, not_false_eq_true, true_implies, false_implies, reduceCtorEq, true_and, and_true, false_and, or_false, false_or, implies_true, e5]
   obtain rfl : k = adj.length := by omega
   exact h1
 ·rintro o (⟨rfl, h1⟩ | ⟨rfl, h⟩)
  ·simp only [ret_bind]
   refine ret_call (P := fun o => (o = .inl () ∧ G2 adj adj.length) ∨ (o = .inr () ∧ ¬ Gr adj)) ?_ ?_
   ·refine ret_loop adj.length (fun k (t : Int) => t = k ∧ G2 adj k) ⟨rfl, fun v l h => by omega⟩ ?_
    rintro k _ hk ⟨rfl, h2⟩
    unfold graph_Check_l6
    by_cases hkl : k < adj.length
    ·obtain ⟨l, hx⟩ : ∃ l, adj[k]? = some l := ⟨adj[k], by simp [hkl]⟩
     have e1 : getI adj (k : Int) = some l := hx
     have e5 : (k : Int) < (adj.length : Int) := by omega
     have hw : wa .i64 (k : Int) 1 = ((k + 1 : Nat) : Int) := wa1 (by omega)
     have hll := hs.2 l (mem_get hx)
     simp only [ret_bind, ret_if, ret_get, ret_set, ret_app, ret_mkL, ret_sli, ret_wr, ret_wq, ret_some, vq_l, vq_r, Int.toNat_natCast, if_true, if_false, obs, decide_false, decide_true, Bool.false_eq_true, Bool.not_true, Bool.not_false, not_true_eq_false, not_false_eq_true, true_implies, false_implies, reduceCtorEq, true_and, and_true, false_and, or_false, false_or, implies_true, e1, e5]
     refine ret_call (P := fun o => (o = .inl () ∧ S1 adj k l) ∨ (o = .inr () ∧ ¬ Gr adj)) ?_ ?_
     ·refine ret_loop l.length (fun j (t : Int) => t = j ∧ S1 adj k (l.take j)) ⟨rfl, fun x hx => by simp at hx⟩ ?_
      rintro j _ hj ⟨rfl, h3⟩
      unfold graph_Check_l7
      by_cases hjl : j < l.length
      ·obtain ⟨x, hxj⟩ : ∃ x, l[j]? = some x := ⟨l[j], by simp [hjl]⟩
       have hxr := (h1 k l hkl hx).1.2 x (mem_get hxj)
       obtain ⟨w, rfl⟩ := Int.eq_ofNat_of_zero_le hxr.1
       obtain ⟨m, hm⟩ : ∃ m, adj[w]? = some m := ⟨adj[w]'(by omega), by simp [show w < adj.length by omega]⟩
       have e2 : getI l (j : Int) = some (w : Int) := hxj
       have e3 : getI adj (w : Int) = some m := hm
       have e6 : (j : Int) < (l.length : Int) := by omega
       have hw2 : wa .i64 (j : Int) 1 = ((j + 1 : Nat) : Int) := wa1 (by omega)
       have e4 := joined_p e3 (h1 w m (by omega) hm).1.1 (hs.2 m (mem_get hm)) (k : Int)
       by_cases hmm : (k : Int) ∈ m
       ·simp only [ret_bind, ret_if, ret_get, ret_set, ret_app, ret_mkL, ret_sli, ret_wr, ret_wq, ret_some, vq_l, vq_r, Int.toNat_natCast, if_true, if_false, obs, decide_false, decide_true, Bool.false_eq_true, Bool.not_true, Bool.not_false, not_true_eq_false, not_false_eq_true, true_implies, false_implies, reduceCtorEq, true_and, and_true, false_and, or_false, false_or, implies_true, e2, e4, e6, hmm, hw2, tks hxj]
        refine ⟨hjl, fun y hy => ?_⟩
        rw [List.mem_append, List.mem_singleton] at hy
        rcases hy with hy | rfl
        ·exact h3 y hy
        ·exact ⟨m, hm, hmm⟩
       ·simp only [ret_bind, ret_if, ret_get, ret_set, ret_app, ret_mkL, ret_sli, ret_wr, ret_wq, ret_some, vq_l, vq_r, Int.toNat_natCast, if_true, if_false, obs, decide_false, decide_true, Bool.false_eq_true, Bool.not_true, Bool.not_false, not_true_eq_false, not_false_eq_true, true_implies, false_implies, reduceCtorEq, true_and, and_true, false_and, or_false, false_or, implies_true, e2, e4, e6, hmm]
        refine fun h => hmm ?_
        obtain ⟨m', g1, g2⟩ := h.sym k l w hx (mem_get hxj)
        rw [Int.toNat_natCast, hm] at g1
        obtain rfl := Option.some.inj g1
        exact g2
      ·have e6 : ¬ (j : Int) < (l.length : Int) := by omega
       simp only [ret_bind, ret_if, ret_get, ret_set, ret_app, ret_mkL, ret_sli, ret_wr, ret_wq, ret_some, vq_l, vq_r, Int.toNat_natCast, if_true, if_false, obs, decide_false, decide_true, Bool.false_eq_true, Bool.not_true, Bool.not_false, not_true_eq_false, not_false_eq_true, true_implies, false_implies, reduceCtorEq, true_and, and_true, false_and, or_false, false_or, implies_true, e6]
       rw [take_all (by omega)] at h3
       exact h3
     ·rintro o (⟨rfl, h3⟩ | ⟨rfl, h⟩)
      ·simp only [ret_bind, ret_if, ret_get, ret_set, ret_app, ret_mkL, ret_sli, ret_wr, ret_wq, ret_some, vq_l, vq_r, Int.toNat_natCast, if_true, if_false, obs, decide_false, decide_true, Bool.false_eq_true, Bool.not_true, Bool.not_false, not_true_eq_false, not_false_eq_true, true_implies, false_implies, reduceCtorEq, true_and, and_true, false_and, or_false, false_or, implies_true, hw]
       refine ⟨hkl, fun v l' hv hl' => ?_⟩
       by_cases hvk : v = k
       ·subst hvk
        rw [hx] at hl'
        obtain rfl := Option.some.inj hl'
        exact h3
       ·exact h2 v l' (by omega) hl'
      ·simp only [ret_bind, ret_if, ret_get, ret_set, ret_app, ret_mkL, ret_sli, ret_wr, ret_wq, ret_some, vq_l, vq_r, Int.toNat_natCast, if_true, if_false, obs, decide_false, decide_true, Bool.false_eq_true, Bool.not_true, Bool.not_false, not_true_eq_false, not_false_eq_true, true_implies, false_implies, reduceCtorEq, true_and, and_true, false_and, or_false, false_or, implies_true]
       exact h
    ·have e5 : ¬ (k : Int) < (adj.length : Int) := by omega
     simp only [ret_bind, ret_if, ret_get, ret_set, ret_app, ret_mkL, ret_sli, ret_wr, ret_wq, ret_some, vq_l, vq_r, Int.toNat_natCast, if_true, if_false, obs, decide_false, decide_true, Bool.false_eq_true, Bool.not_true, Bool.not_false, not_true_eq_false, not_false_eq_true, true_implies, false_implies, reduceCtorEq, true_and, and_true, false_and, or_false, false_or, implies_true, e5]
     obtain rfl : k = adj.length := by omega
     exact h2
   ·rintro o (⟨rfl, h2⟩ | ⟨rfl, h⟩)
    ·simp only [ret_some]; exact .inl ⟨trivial, gr_iff.2 ⟨h1, h2⟩⟩
    ·simp only [ret_some]; exact .inr ⟨trivial, h⟩
  ·simp only [ret_some]; exact .inr ⟨trivial, h⟩

theorem kin_e {l : List Int} {v : Int} (hl : l.length ≤ 100000) : sparsekit_In l v = some (decide (v ∈ l)) := by
 refine Ret.eq ?_
 unfold sparsekit_In
 simp only [ret_bind]
 refine ret_loop l.length (fun k (t : Int) => t = k ∧ v ∉ l.take k) (by simp) ?_
 intro k t hk hI
 unfold sparsekit_In_l1
 simp only [ret_bind, ret_if, ret_get, ret_some, vq_l, vq_r]
 grind [List.take_add_one, List.mem_iff_getElem?]

/-- one row, as the document checks it -/
def R1 (adj : List (List Int)) (v : Nat) (l : List Int) : Prop := ∀ x, x ∈ l → (0 ≤ x ∧ x < (adj.length : Int)) ∧ x ≠ (v : Int) ∧ ∃ m, adj[x.toNat]? = some m ∧ (v : Int) ∈ m
def G3 (adj : List (List Int)) (k : Nat) : Prop := ∀ (v : Nat) l, v < k → adj[v]? = some l → l.Pairwise (· < ·) ∧ R1 adj v l
theorem gr_iff3 {adj : List (List Int)} : Gr adj ↔ G3 adj adj.length := by
 constructor
 ·intro h v l _ hl
  exact ⟨h.asc v l hl, fun x hx => ⟨⟨(h.rng v l x hl hx).1, (h.rng v l x hl hx).2.1⟩, (h.rng v l x hl hx).2.2, h.sym v l x hl hx⟩⟩
 ·intro h
  have hlt : ∀ (v : Nat) l, adj[v]? = some l → v < adj.length := fun v l hl => (List.getElem?_eq_some_iff.1 hl).1
  refine ⟨fun v l hl => (h v l (hlt v l hl) hl).1, fun v l x hl hx => ?_, fun v l x hl hx => ((h v l (hlt v l hl) hl).2 x hx).2.2⟩
  have := (h v l (hlt v l hl) hl).2 x hx
  exact ⟨this.1.1, this.1.2, this.2.1⟩

theorem rcheck_p {adj : List (List Int)} (hn : adj.length ≤ 200) (hs : Sml adj) : Ret (sparseref12_Check adj) (fun e => (e = 0 ∧ Gr adj) ∨ (e = 1 ∧ ¬ Gr adj)) := by
 unfold sparseref12_Check
 rw [if_neg (by omega)]
 simp only [ret_bind]
 refine ret_call (P := fun o => (o = .inl () ∧ Gr adj) ∨ (o = .inr () ∧ ¬ Gr adj)) ?_ ?_
 ·refine ret_loop adj.length (fun k (t : Int) => t = k ∧ G3 adj k) ⟨rfl, fun v l h => by omega⟩ ?_
  rintro k _ hk ⟨rfl, h1⟩
  unfold sparseref12_Check_l21
  by_cases hkl : k < adj.length
  ·obtain ⟨l, hx⟩ : ∃ l, adj[k]? = some l := ⟨adj[k], by simp [hkl]⟩
   have e1 : getI adj (k : Int) = some l := hx
   have e5 : (k : Int) < (adj.length : Int) := by omega
   have hw : wa .i64 (k : Int) 1 = ((k + 1 : Nat) : Int) := wa1 (by omega)
   have hll := hs.2 l (mem_get hx)
   simp only [ret_bind, ret_if, ret_get, ret_set, ret_app, ret_mkL, ret_sli, ret_wr, ret_wq, ret_some, vq_l, vq_r, Int.toNat_natCast, if_true, if_false, obs, decide_false, decide_true, Bool.false_eq_true, Bool.not_true, Bool.not_false, not_true_eq_false, not_false_eq_true, true_implies, false_implies, reduceCtorEq, true_and, and_true, false_and, or_false, false_or, implies_true, e1, e5]
   refine ret_call (rasc_p hll) ?_
   rintro b (⟨rfl, ha⟩ | ⟨rfl, ha⟩)
   ·simp only [ret_bind, ret_if, ret_get, ret_set, ret_app, ret_mkL, ret_sli, ret_wr, ret_wq, ret_some, vq_l, vq_r, Int.toNat_natCast, if_true, if_false, obs, decide_false, decide_true, Bool.false_eq_true, Bool.not_true, Bool.not_false, not_true_eq_false, not_false_eq_true, true_implies, false_implies, reduceCtorEq, true_and, and_true, false_and, or_false, false_or, implies_true]
    refine ret_call (P := fun o => (o = .inl () ∧ R1 adj k l) ∨ (o = .inr () ∧ ¬ Gr adj)) ?_ ?_
    ·refine ret_loop l.length (fun j (t : Int) => t = j ∧ R1 adj k (l.take j)) ⟨rfl, fun x hx => by simp at hx⟩ ?_
     rintro j _ hj ⟨rfl, h3⟩
     unfold sparseref12_Check_l28
     by_cases hjl : j < l.length
     ·obtain ⟨x, hxj⟩ : ∃ x, l[j]? = some x := ⟨l[j], by simp [hjl]⟩
      have e2 : getI l (j : Int) = some x := hxj
      have e6 : (j : Int) < (l.length : Int) := by omega
      have hw2 : wa .i64 (j : Int) 1 = ((j + 1 : Nat) : Int) := wa1 (by omega)
      by_cases hr : (x < 0 ∨ (adj.length : Int) ≤ x) ∨ x = (k : Int)
      ·have e7 : (((decide (x < 0)) || (decide ((adj.length : Int) ≤ x))) || (decide (x = (k : Int)))) = true := by simpa using hr
       simp only [ret_bind, ret_if, ret_get, ret_set, ret_app, ret_mkL, ret_sli, ret_wr, ret_wq, ret_some, vq_l, vq_r, Int.toNat_natCast, if_true, if_false, obs, decide_false, decide_true, Bool.false_eq_true, Bool.not_true, Bool.not_false, not_true_eq_false, not_false_eq_true, true_implies, false_implies, reduceCtorEq, true_and, and_true, false_and, or_false, false_or, implies_true, e1, e2, e6, e7]
       refine fun h => ?_
       have := h.rng k l x hx (mem_get hxj)
       omega
      ·have e7 : (((decide (x < 0)) || (decide ((adj.length : Int) ≤ x))) || (decide (x = (k : Int)))) = false := by simpa [not_or] using hr
       obtain ⟨w, rfl⟩ := Int.eq_ofNat_of_zero_le (show 0 ≤ x by omega)
       obtain ⟨m, hm⟩ : ∃ m, adj[w]? = some m := ⟨adj[w]'(by omega), by simp [show w < adj.length by omega]⟩
       have e3 : getI adj (w : Int) = some m := hm
       have e4 := kin_e (v := (k : Int)) (hs.2 m (mem_get hm))
       by_cases hmm : (k : Int) ∈ m
       ·simp only [ret_bind, ret_if, ret_get, ret_set, ret_app, ret_mkL, ret_sli, ret_wr, ret_wq, ret_some, vq_l, vq_r, Int.toNat_natCast, if_true, if_false, obs, decide_false, decide_true, Bool.false_eq_true, Bool.not_true, Bool.not_false, not_true_eq_false, not_false_eq_true, true_implies, false_implies, reduceCtorEq, true_and, and_true, false_and, or_false, false_or, implies_true, e1, e2, e3, e4, e6, e7, hmm, hw2, tks hxj]
        refine ⟨hjl, fun y hy => ?_⟩
        rw [List.mem_append, List.mem_singleton] at hy
        rcases hy with hy | rfl
        ·exact h3 y hy
        ·exact ⟨⟨by omega, by omega⟩, by omega, m, hm, hmm⟩
       ·simp only [ret_bind, ret_if, ret_get, ret_set, ret_app, ret_mkL, ret_sli, ret_wr, ret_wq, ret_some, vq_l, vq_r, Int.toNat_natCast, if_true, if_false, obs, decide_false, decide_true, Bool.false_eq_true, Bool.not_true, Bool.not_false, not_true_eq_false, not_false_eq_true, true_implies, false_implies, reduceCtorEq, true_and, and_true, false_and, or_false, false_or, implies_true, e1, e2, e3, e4, e6, e7, hmm]
        refine fun h => hmm ?_
        obtain ⟨m', g1, g2⟩ := h.sym k l w hx (mem_get hxj)
        rw [Int.toNat_natCast, hm] at g1
        obtain rfl := Option.some.inj g1
        exact g2
     ·have e6 : ¬ (j : Int) < (l.length : Int) := by omega
      simp only [ret_bind, ret_if, ret_get, ret_set, ret_app, ret_mkL, ret_sli, ret_wr, ret_wq, ret_some, vq_l, vq_r, Int.toNat_natCast, if_true, if_false, obs, decide_false, decide_true, Bool.false_eq_true, Bool.not_true, Bool.not_false, not_true_eq_false, not_false_eq_true, true_implies, false_implies, reduceCtorEq, true_and, and_true, false_and, or_false, false_or, implies_true, e1, e6]
      rw [take_all (by omega)] at h3
      exact h3
    ·rintro o (⟨rfl, h3⟩ | ⟨rfl, h⟩)
     ·simp only [ret_bind, ret_if, ret_get, ret_set, ret_app, ret_mkL, ret_sli, ret_wr, ret_wq, ret_some, vq_l, vq_r, Int.toNat_natCast, if_true, if_false, obs, decide_false, decide_true, Bool.false_eq_true, Bool.not_true, Bool.not_false, not_true_eq_false, not_false_eq_true, true_implies, false_implies, reduceCtorEq, true_and, and_true, false_and, or_false, false_or, implies_true, hw]
      refine ⟨hkl, fun v l' hv hl' => ?_⟩
      by_cases hvk : v = k
      ·subst hvk
       rw [hx] at hl'
       obtain rfl := Option.some.inj hl'
       exact ⟨ha, h3⟩
      ·exact h1 v l' (by omega) hl'
     ·simp only [ret_bind, ret_if, ret_get, ret_set, ret_app, ret_mkL, ret_sli, ret_wr, ret_wq, ret_some, vq_l, vq_r, Int.toNat_natCast, if_true, if_false, obs, decide_false, decide_true, Bool.false_eq_true, Bool.not_true, Bool.not_false, not_true_eq_false, not_false_eq_true, true_implies, false_implies, reduceCtorEq, true_and, and_true, false_and, or_false, false_or, implies_true]
      exact h
   ·simp only [ret_bind, ret_if, ret_get, ret_set, ret_app, ret_mkL, ret_sli, ret_wr, ret_wq, ret_some, vq_l, vq_r, Int.toNat_natCast, if_true, if_false, obs, decide_false, decide_true, Bool.false_eq_true, Bool.not_true, Bool.not_false, not_true_eq_false, not_false_eq_true, true_implies, false_implies, reduceCtorEq, true_and, and_true, false_and, or_false, false_or, implies_true]
    exact fun h => ha (h.asc k l hx)
  ·have e5 : ¬ (k : Int) < (adj.length : Int) := by omega
   simp only [ret_bind, ret_if, ret_get, ret_set, ret_app, ret_mkL, ret_sli, ret_wr, ret_wq, ret_some, vq_l, vq_r, Int.toNat_natCast, if_true, if_false, obs, decide_false, decide_true, Bool.false_eq_true, Bool.not_true, Bool.not_false, not_true_eq_false, not_false_eq_true, true_implies, false_implies, reduceCtorEq, true_and, and_true, false_and, or_false, false_or, implies_true, e5]
   obtain rfl : k = adj.length := by omega
   exact gr_iff3.2 h1
 ·rintro o (⟨rfl, h⟩ | ⟨rfl, h⟩)
  ·simp only [ret_some]; exact .inl ⟨trivial, h⟩
  ·simp only [ret_some]; exact .inr ⟨trivial, h⟩

/-- both checks say the same -/
theorem gchecks {adj : List (List Int)} (hs : Sml adj) : ∃ e, graph_Check adj = some e ∧ sparseref12_Check adj = some e ∧ ((e = 0 ∧ Gr adj ∧ adj.length ≤ 200) ∨ e ≠ 0) := by
 by_cases hn : adj.length ≤ 200
 ·obtain ⟨e, h1, h2⟩ := gcheck_p hn hs
  obtain ⟨e', h3, h4⟩ := rcheck_p hn hs
  rcases h2 with ⟨rfl, h2⟩ | ⟨rfl, h2⟩
  ·rcases h4 with ⟨rfl, h4⟩ | ⟨rfl, h4⟩
   ·exact ⟨0, h1, h3, .inl ⟨rfl, h2, hn⟩⟩
   ·exact absurd h2 h4
  ·rcases h4 with ⟨rfl, h4⟩ | ⟨rfl, h4⟩
   ·exact absurd h4 h2
   ·exact ⟨1, h1, h3, .inr (by decide)⟩
 ·exact ⟨6, by unfold graph_Check; rw [if_pos (by omega)], by unfold sparseref12_Check; rw [if_pos (by omega)], .inr (by decide)⟩
end Pu
/- The law GraphAny. -/
set_option linter.unusedSimpArgs false
set_option linter.unusedVariables false
namespace Pu
open Pl Sx Go M Vc

theorem twinInts_ok {l : List Int} (hl : l.length ≤ 100000) : sparsekit_TwinInts l = some l := by
 refine Ret.eq ?_
 unfold sparsekit_TwinInts
 simp only [ret_bind]
 refine ret_call (P := fun o => o = l) ?_ (fun o ho => by subst ho; simp only [ret_some])
 refine ret_loop l.length (fun k (t : List Int × Int) => t.2 = k ∧ t.1 = l.take k) ⟨rfl, by simp⟩ ?_
 rintro k ⟨s, i⟩ hk ⟨rfl, hs⟩
 simp only at hs
 subst hs
 unfold sparsekit_TwinInts_l1
 by_cases hkl : k < l.length
 ·obtain ⟨x, hx⟩ : ∃ x, l[k]? = some x := ⟨l[k], by simp [hkl]⟩
  have e1 : getI l (k : Int) = some x := hx
  have e5 : (k : Int) < (l.length : Int) := by omega
  have hw : wa .i64 (k : Int) 1 = ((k + 1 : Nat) : Int) := wa1 (by omega)
  simp only [ret_bind, ret_if, ret_get, ret_set, ret_app, ret_mkL, ret_sli, ret_wr, ret_wq, ret_some, vq_l, vq_r, Int.toNat_natCast, if_true, if_false, obs, decide_false, decide_true, Bool.false_eq_true, Bool.not_true, Bool.not_false, not_true_eq_false, not_false_eq_true, true_implies, false_implies, reduceCtorEq, true_and, and_true, false_and, or_false, false_or, implies_true, e1, e5, hw]
  exact ⟨by rw [List.length_take, List.length_singleton]; omega, hkl, (tks hx).symm⟩
 ·have e5 : ¬ (k : Int) < (l.length : Int) := by omega
  simp only [ret_bind, ret_if, ret_get, ret_set, ret_app, ret_mkL, ret_sli, ret_wr, ret_wq, ret_some, vq_l, vq_r, Int.toNat_natCast, if_true, if_false, obs, decide_false, decide_true, Bool.false_eq_true, Bool.not_true, Bool.not_false, not_true_eq_false, not_false_eq_true, true_implies, false_implies, reduceCtorEq, true_and, and_true, false_and, or_false, false_or, implies_true, e5]
  exact take_all (by omega)

theorem twinGraph_ok {adj : List (List Int)} (hs : Sml adj) : sparsekit_TwinGraph adj = some adj := by
 have hsl := hs.1
 refine Ret.eq ?_
 unfold sparsekit_TwinGraph sparsekit_TwinLists
 simp only [ret_bind, ret_some]
 refine ret_loop adj.length (fun k (t : List (List Int) × Int) => t.2 = k ∧ t.1 = adj.take k) ⟨rfl, by simp⟩ ?_
 rintro k ⟨s, i⟩ hk ⟨rfl, hs'⟩
 simp only at hs'
 subst hs'
 unfold sparsekit_TwinLists_l1
 by_cases hkl : k < adj.length
 ·obtain ⟨x, hx⟩ : ∃ x, adj[k]? = some x := ⟨adj[k], by simp [hkl]⟩
  have e1 : getI adj (k : Int) = some x := hx
  have e2 := twinInts_ok (hs.2 x (mem_get hx))
  have e5 : (k : Int) < (adj.length : Int) := by omega
  have hw : wa .i64 (k : Int) 1 = ((k + 1 : Nat) : Int) := wa1 (by omega)
  have := hs.1
  simp only [ret_bind, ret_if, ret_get, ret_set, ret_app, ret_mkL, ret_sli, ret_wr, ret_wq, ret_some, vq_l, vq_r, Int.toNat_natCast, if_true, if_false, obs, decide_false, decide_true, Bool.false_eq_true, Bool.not_true, Bool.not_false, not_true_eq_false, not_false_eq_true, true_implies, false_implies, reduceCtorEq, true_and, and_true, false_and, or_false, false_or, implies_true, e1, e2, e5, hw]
  exact ⟨by rw [List.length_take, List.length_singleton]; omega, hkl, (tks hx).symm⟩
 ·have e5 : ¬ (k : Int) < (adj.length : Int) := by omega
  simp only [ret_bind, ret_if, ret_get, ret_set, ret_app, ret_mkL, ret_sli, ret_wr, ret_wq, ret_some, vq_l, vq_r, Int.toNat_natCast, if_true, if_false, obs, decide_false, decide_true, Bool.false_eq_true, Bool.not_true, Bool.not_false, not_true_eq_false, not_false_eq_true, true_implies, false_implies, reduceCtorEq, true_and, and_true, false_and, or_false, false_or, implies_true, e5]
  exact take_all (by omega)

def InR (l : List Int) (n : Nat) : Prop := ∀ x, x ∈ l → 0 ≤ x ∧ x < (n : Int)
theorem InR.snoc {l : List Int} {n : Nat} {x : Int} : InR (l ++ [x]) n ↔ InR l n ∧ 0 ≤ x ∧ x < (n : Int) := by
 unfold InR
 constructor
 ·intro h
  exact ⟨fun y hy => h y (by simp [hy]), h x (by simp)⟩
 ·rintro ⟨h1, h2⟩ y hy
  rw [List.mem_append, List.mem_singleton] at hy
  rcases hy with hy | rfl
  ·exact h1 y hy
  ·exact h2
theorem InR.take {l : List Int} {n : Nat} (h : InR l n) (k : Nat) : InR (l.take k) n := fun x hx => h x (List.mem_of_mem_take hx)

def OkG (g : List (List Int)) : Prop := g.length ≤ 100000 ∧ ∀ x, x ∈ g → x.length ≤ 100000
theorem okG_nil : OkG [] := ⟨by simp, by simp⟩
theorem lists_same {g : List (List Int)} (h : OkG g) : sparsekit_Lists g g = some true := by
 rw [klists_ok h.1 h.2]; simp
theorem graph_same {g : List (List Int)} (h : OkG g) : sparsekit_Graph g g = some true := by
 unfold sparsekit_Graph
 rw [lists_same h]; rfl
end Pu
/- Coarsening and cuts. -/
set_option linter.unusedSimpArgs false
set_option linter.unusedVariables false
namespace Pd
open Pl Sx Go M Vc

def OkE (K : Nat) (g : Nat → Nat → Int) : Prop := ∀ a b, a < K → b < K → g a b ≤ 1099511627776
theorem wg_row {K : Nat} {g : Nat → Int} : (∀ x, x ∈ (nbs K g).map g → Wg x) ↔ ∀ b, b < K → g b ≤ 1099511627776 := by
 constructor
 ·intro h b hb
  by_cases hp : 0 < g b
  ·exact (h (g b) (List.mem_map.2 ⟨b, nbs_mem.2 ⟨hb, hp⟩, rfl⟩)).2
  ·omega
 ·intro h x hx
  obtain ⟨b, hb, rfl⟩ := List.mem_map.1 hx
  obtain ⟨h1, h2⟩ := nbs_mem.1 hb
  exact ⟨by omega, h b h1⟩

theorem build_rows {K : Nat} (hK : K ≤ 200) {X : List (List Int)} {f : Nat → Nat → Int} (hX : Tv X K f) :
  Ret (loop (dissect_coarsen_l35 X) (List.replicate K [], List.replicate K [], 0)) (fun o => (o = .inl (cadj K (cw f), ced K (cw f)) ∧ OkE K (cw f)) ∨ (o = .inr () ∧ ¬ OkE K (cw f))) := by
 have hXl := hX.1
 refine ret_loop K (fun k (t : List (List Int) × List (List Int) × Int) => t.2.2 = k ∧ t.1.length = K ∧ t.2.1.length = K ∧ (∀ a, a < K → t.1[a]? = some (if a < k then (nbs K (cw f a)).map Int.ofNat else []) ∧ t.2.1[a]? = some (if a < k then (nbs K (cw f a)).map (cw f a) else [])) ∧ ∀ a b, a < k → b < K → cw f a b ≤ 1099511627776) ⟨rfl, by simp, by simp, fun a ha => by simp [ha], fun a b ha => by omega⟩ ?_
 rintro k ⟨A, E, i⟩ hk ⟨rfl, h1, h2, h3, h4⟩
 simp only at h1 h2 h3
 unfold dissect_coarsen_l35
 by_cases hkn : k < K
 ·obtain ⟨r, hr1, hr2, hr3⟩ := hX.2 k hkn
  have e1 : getI X (k : Int) = some r := hr1
  have e5 : (k : Int) < (X.length : Int) := by omega
  have hw : wa .i64 (k : Int) 1 = ((k + 1 : Nat) : Int) := wa1 (by omega)
  obtain ⟨a1, a2⟩ := h3 k hkn
  rw [if_neg (by omega)] at a1 a2
  have e2 := rows_ok hK hkn hr2 hr3 h1 h2 a1 a2
  have e3 : getI (E.set k ((nbs K (cw f k)).map (cw f k))) (k : Int) = some ((nbs K (cw f k)).map (cw f k)) := by rw [getI_cast, List.getElem?_set, if_pos rfl, if_pos (by omega)]
  have hnl := nbs_len (n := K) (f := cw f k)
  obtain ⟨b, b1, b2⟩ := weights_ok (l := (nbs K (cw f k)).map (cw f k)) (by rw [List.length_map]; omega)
  rw [wg_row] at b2
  cases b with
  | true =>
   simp only [ret_bind, ret_if, e5, ret_of e1, ret_of e2, ret_of e3, ret_of b1, ret_some, vq_l, vq_r, true_implies, not_true_eq_false, false_implies, and_true, hw]
   refine ⟨hkn, trivial, by simp [h1], by simp [h2], fun a ha => ?_, fun a c ha hc => ?_⟩
   ·rw [List.getElem?_set, List.getElem?_set]
    by_cases hka : k = a
    ·subst hka; rw [if_pos rfl, if_pos (by omega), if_pos rfl, if_pos (by omega), if_pos (by omega), if_pos (by omega)]; exact ⟨rfl, rfl⟩
    ·rw [if_neg hka, if_neg hka, (h3 a ha).1, (h3 a ha).2]
     by_cases hak : a < k
     ·rw [if_pos hak, if_pos hak, if_pos (show a < k + 1 by omega), if_pos (show a < k + 1 by omega)]; exact ⟨rfl, rfl⟩
     ·rw [if_neg hak, if_neg hak, if_neg (show ¬ a < k + 1 by omega), if_neg (show ¬ a < k + 1 by omega)]; exact ⟨rfl, rfl⟩
   ·by_cases hak : a < k
    ·exact h4 a c hak hc
    ·have : a = k := by omega
     subst this
     exact b2.1 rfl c hc
  | false =>
   simp only [ret_bind, ret_if, e5, ret_of e1, ret_of e2, ret_of e3, ret_of b1, ret_some, vq_l, vq_r, true_implies, not_true_eq_false, false_implies, and_true, Bool.false_eq_true, not_false_eq_true, true_and]
   refine .inr fun h => ?_
   have := b2.2 (fun c hc => h k c hkn hc)
   cases this
 ·have e5 : ¬ (k : Int) < (X.length : Int) := by omega
  simp only [ret_if, e5, false_implies, not_false_eq_true, true_implies, true_and, ret_some, vq_r]
  refine .inl ⟨?_, fun a b ha hb => h4 a b (by omega) hb⟩
  congr 2
  ·apply List.ext_getElem?
   intro a
   by_cases ha : a < K
   ·rw [(h3 a ha).1, cadj_get ha, if_pos (by omega)]
   ·rw [List.getElem?_eq_none (by omega), List.getElem?_eq_none (by rw [cadj_len]; omega)]
  ·apply List.ext_getElem?
   intro a
   by_cases ha : a < K
   ·rw [(h3 a ha).2, ced_get ha, if_pos (by omega)]
   ·rw [List.getElem?_eq_none (by omega), List.getElem?_eq_none (by rw [ced_len]; omega)]

/-- what coarsening comes to -/
structure Co (n : Nat) (W : Nat → Nat → Int) (vx vs to : List Int) (B : Int) : Prop where
 mg : Mg vx n n vs to
 tb : ∀ a b, 0 ≤ tabS n W to n a b ∧ tabS n W to n a b ≤ (n * n : Nat) * B

theorem cw_tw {n : Nat} {W : Nat → Nat → Int} {B : Int} (hT : Tw n W B) {to : List Int} {K : Nat} {B' : Int} (hb : ∀ a b, a < K → b < K → 0 ≤ tabS n W to n a b ∧ cw (tabS n W to n) a b ≤ B') (hB' : 0 ≤ B') : Tw K (cw (tabS n W to n)) B' := by
 refine ⟨fun a b ha hb' => ?_, fun a b ha hb' => ?_, fun a ha => by unfold cw; rw [if_pos rfl]⟩
 ·refine ⟨?_, (hb a b ha hb').2⟩
  unfold cw
  split
  ·omega
  ·exact (hb a b ha hb').1
 ·unfold cw
  by_cases h : a = b
  ·rw [if_pos h, if_pos h.symm]
  ·rw [if_neg h, if_neg (fun e => h e.symm)]
   unfold tabS
   rw [sm_swap]
   refine sm_congr fun u hu => sm_congr fun v hv => ?_
   rw [hT.sym v u hv hu]
   by_cases h1 : tt to v = a ∧ tt to u = b
   ·rw [if_pos h1, if_pos ⟨h1.2, h1.1⟩]
   ·rw [if_neg h1, if_neg (fun e => h1 ⟨e.2, e.1⟩)]

/-! ### cuts -/
/-- the side of v -/
def sd (side : List Int) (v : Nat) : Int := side[v]?.getD 0
theorem sd_get {side : List Int} {v : Nat} {x : Int} (h : side[v]? = some x) : sd side v = x := by unfold sd; rw [h]; rfl
def cut (n : Nat) (W : Nat → Nat → Int) (s : Nat → Int) : Int := sm n fun v => sm n fun u => if u < v then (if s u = s v then 0 else W v u) else 0

theorem cut_row {n : Nat} (hn : n ≤ 200) {W : Nat → Nat → Int} {B : Int} (hT : Tw n W B) (hB : 0 ≤ B ∧ B ≤ 1099511627776) {side : List Int} (hs : side.length = n) {v : Nat} (hv : v < n) {c : Int} (hc : 0 ≤ c ∧ c ≤ 50000 * 1099511627776) :
  loop (dissect_Cut_l36 ((nbs n (W v)).map Int.ofNat) (v : Int) side (ced n W)) (c, 0) = some (c + sm n fun u => if u < v then (if sd side u = sd side v then 0 else W v u) else 0) := by
 have hnl := nbs_len (n := n) (f := W v)
 have hll : ((nbs n (W v)).map Int.ofNat).length = (nbs n (W v)).length := by simp
 have hget : ∀ u, u < n → side[u]? = some (sd side u) := by
  intro u hu
  obtain ⟨x, hx⟩ : ∃ x, side[u]? = some x := ⟨side[u]'(by omega), by simp [show u < side.length by omega]⟩
  rw [sd_get hx]; exact hx
 have hsum : (sm n fun u => if u < v then (if sd side u = sd side v then 0 else W v u) else 0) = ((nbs n (W v)).map fun u => if u < v then (if sd side u = sd side v then 0 else W v u) else 0).sum := by
  rw [nbs_sum]
  refine sm_congr fun u hu => ?_
  by_cases h : 0 < W v u
  ·rw [if_pos h]
  ·have := hT.nn v u hv hu
   rw [if_neg h]; split
   ·split <;> omega
   ·rfl
 rw [hsum]
 refine Ret.eq ?_
 refine ret_loop (nbs n (W v)).length (fun k (t : Int × Int) => t.2 = k ∧ t.1 = c + (((nbs n (W v)).take k).map fun u => if u < v then (if sd side u = sd side v then 0 else W v u) else 0).sum ∧ 0 ≤ (((nbs n (W v)).take k).map fun u => if u < v then (if sd side u = sd side v then 0 else W v u) else 0).sum ∧ (((nbs n (W v)).take k).map fun u => if u < v then (if sd side u = sd side v then 0 else W v u) else 0).sum ≤ k * B) ⟨rfl, by simp, by simp, by simp⟩ ?_
 rintro k ⟨t, i⟩ hk ⟨rfl, h1, h2, h3⟩
 simp only at h1
 subst h1
 unfold dissect_Cut_l36 dissect_Cut_j40
 by_cases hkl : k < (nbs n (W v)).length
 ·obtain ⟨u, hu⟩ : ∃ u, (nbs n (W v))[k]? = some u := ⟨(nbs n (W v))[k], by simp [hkl]⟩
  obtain ⟨hun, hpos⟩ := nbs_mem.1 (List.mem_of_getElem? hu)
  have hwr := hT.nn v u hv hun
  have e0 : getI ((nbs n (W v)).map Int.ofNat) (k : Int) = some (u : Int) := by rw [getI_cast, List.getElem?_map, hu]; rfl
  have e1 : getI side (u : Int) = some (sd side u) := hget u hun
  have e2 : getI side (v : Int) = some (sd side v) := hget v hv
  have e6 : getI (ced n W) (v : Int) = some ((nbs n (W v)).map (W v)) := ced_get hv
  have e7 : getI ((nbs n (W v)).map (W v)) (k : Int) = some (W v u) := by rw [getI_cast, List.getElem?_map, hu]; rfl
  have e5 : (k : Int) < (((nbs n (W v)).map Int.ofNat).length : Int) := by omega
  have hw : wa .i64 (k : Int) 1 = ((k + 1 : Nat) : Int) := wa1 (by omega)
  have gk : (k : Int) * B ≤ 200 * 1099511627776 := Int.le_trans (Int.mul_le_mul_of_nonneg_right (show (k : Int) ≤ 200 by omega) hB.1) (Int.mul_le_mul_of_nonneg_left hB.2 (by omega))
  have hk1 : ((k + 1 : Nat) : Int) * B = k * B + B := by rw [Int.natCast_add, Int.add_mul]; omega
  have hts : (((nbs n (W v)).take (k + 1)).map fun u => if u < v then (if sd side u = sd side v then 0 else W v u) else 0).sum = (((nbs n (W v)).take k).map fun u => if u < v then (if sd side u = sd side v then 0 else W v u) else 0).sum + (if u < v then (if sd side u = sd side v then 0 else W v u) else 0) := by
   rw [tks hu, List.map_append, List.sum_append]; simp
  rw [hts, hk1]
  generalize (((nbs n (W v)).take k).map fun u => if u < v then (if sd side u = sd side v then 0 else W v u) else 0).sum = S at *
  by_cases huv : u < v
  ·have e8 : (u : Int) < (v : Int) := by omega
   by_cases hsd : sd side u = sd side v
   ·simp only [ret_bind, ret_if, ret_get, ret_set, ret_app, ret_mkL, ret_sli, ret_wr, ret_wq, ret_some, vq_l, vq_r, Int.toNat_natCast, if_true, if_false, obs, decide_false, decide_true, Bool.false_eq_true, Bool.not_true, Bool.not_false, not_true_eq_false, not_false_eq_true, true_implies, false_implies, reduceCtorEq, true_and, and_true, false_and, or_false, false_or, implies_true, e0, e1, e2, e5, e8, hsd, hw]
    rw [if_pos huv]
    exact ⟨hkl, by omega, by omega, by omega⟩
   ·have hw2 : wa .i64 (c + S) (W v u) = c + S + W v u := wa_i (by omega) (by omega)
    simp only [ret_bind, ret_if, ret_get, ret_set, ret_app, ret_mkL, ret_sli, ret_wr, ret_wq, ret_some, vq_l, vq_r, Int.toNat_natCast, if_true, if_false, obs, decide_false, decide_true, Bool.false_eq_true, Bool.not_true, Bool.not_false, not_true_eq_false, not_false_eq_true, true_implies, false_implies, reduceCtorEq, true_and, and_true, false_and, or_false, false_or, implies_true, e0, e1, e2, e5, e6, e7, e8, hsd, hw2, hw]
    rw [if_pos huv]
    exact ⟨hkl, by omega, by omega, by omega⟩
  ·have e8 : ¬ (u : Int) < (v : Int) := by omega
   simp only [ret_bind, ret_if, ret_get, ret_set, ret_app, ret_mkL, ret_sli, ret_wr, ret_wq, ret_some, vq_l, vq_r, Int.toNat_natCast, if_true, if_false, obs, decide_false, decide_true, Bool.false_eq_true, Bool.not_true, Bool.not_false, not_true_eq_false, not_false_eq_true, true_implies, false_implies, reduceCtorEq, true_and, and_true, false_and, or_false, false_or, implies_true, e0, e5, e8, hw]
   rw [if_neg huv]
   exact ⟨hkl, by omega, by omega, by omega⟩
 ·have e5 : ¬ (k : Int) < (((nbs n (W v)).map Int.ofNat).length : Int) := by omega
  rw [take_all (by omega)]
  simp only [ret_bind, ret_if, ret_get, ret_set, ret_app, ret_mkL, ret_sli, ret_wr, ret_wq, ret_some, vq_l, vq_r, Int.toNat_natCast, if_true, if_false, obs, decide_false, decide_true, Bool.false_eq_true, Bool.not_true, Bool.not_false, not_true_eq_false, not_false_eq_true, true_implies, false_implies, reduceCtorEq, true_and, and_true, false_and, or_false, false_or, implies_true, e5]

def S01 (side : List Int) : Prop := ∀ x, x ∈ side → x = 0 ∨ x = 1
theorem s01_ok {side : List Int} (h : S01 side) (hl : side.length ≤ 100000) : slices_ContainsFunc_int_v3 side = some false := by
 have : slices_IndexFunc_int_v3 side = some (-1) := by
  refine Ret.eq ?_
  unfold slices_IndexFunc_int_v3
  rw [ret_bind]
  refine ret_call (P := fun o => o = .inl ()) ?_ (by rintro _ rfl; simp only [ret_some])
  refine ret_loop side.length (fun k (t : Int) => t = (k : Int)) rfl ?_
  rintro k _ hk rfl
  unfold slices_IndexFunc_int_v3_l1 dissect_Cut_1
  by_cases hkl : k < side.length
  ·have e1 : getI side (k : Int) = some side[k] := getI_lt hkl
   have e5 : (k : Int) < (side.length : Int) := by omega
   have hw : wa .i64 (k : Int) 1 = ((k + 1 : Nat) : Int) := wa1 (by omega)
   have e6 : (!(decide (side[k] = 0)) && !(decide (side[k] = 1))) = false := by
    rcases h _ (List.getElem_mem hkl) with h | h <;> simp [h]
   simp only [ret_bind, ret_if, ret_get, ret_set, ret_app, ret_mkL, ret_sli, ret_wr, ret_wq, ret_some, vq_l, vq_r, Int.toNat_natCast, if_true, if_false, obs, decide_false, decide_true, Bool.false_eq_true, Bool.not_true, Bool.not_false, not_true_eq_false, not_false_eq_true, true_implies, false_implies, reduceCtorEq, true_and, and_true, false_and, or_false, false_or, implies_true, e1, e5, e6, hw]
   exact hkl
  ·have e5 : ¬ (k : Int) < (side.length : Int) := by omega
   simp only [ret_bind, ret_if, ret_get, ret_set, ret_app, ret_mkL, ret_sli, ret_wr, ret_wq, ret_some, vq_l, vq_r, Int.toNat_natCast, if_true, if_false, obs, decide_false, decide_true, Bool.false_eq_true, Bool.not_true, Bool.not_false, not_true_eq_false, not_false_eq_true, true_implies, false_implies, reduceCtorEq, true_and, and_true, false_and, or_false, false_or, implies_true, e5]
 unfold slices_ContainsFunc_int_v3
 rw [bindS this]
 rfl

theorem cut_ok {n : Nat} (hn : n ≤ 200) {W : Nat → Nat → Int} {B : Int} (hT : Tw n W B) (hB : 0 ≤ B ∧ B ≤ 1099511627776) {vx : List Int} (hW : Wt (cadj n W) vx (ced n W)) {side : List Int} (hs : side.length = n) (h01 : S01 side) :
  dissect_Cut (cadj n W) vx (ced n W) side = some (cut n W (sd side), 0) := by
 have hvl := hW.vl
 rw [cadj_len] at hvl
 unfold dissect_Cut
 rw [bindS (checkW_ok hW (by rw [cadj_len]; exact hn)), if_pos rfl, if_pos (by omega), bindS (s01_ok h01 (by omega)), if_neg (by simp)]
 have : loop (dissect_Cut_l27 (cadj n W) side (ced n W)) (0, 0) = some (cut n W (sd side)) := by
  refine Ret.eq ?_
  have hb : ∀ k, k ≤ n → 0 ≤ (sm k fun v => sm n fun u => if u < v then (if sd side u = sd side v then 0 else W v u) else 0) ∧ (sm k fun v => sm n fun u => if u < v then (if sd side u = sd side v then 0 else W v u) else 0) ≤ 50000 * 1099511627776 := by
   intro k hk
   refine ⟨sm_nonneg fun v hv => sm_nonneg fun u hu => ?_, ?_⟩
   ·have := hT.nn v u (by omega) hu; split
    ·split <;> omega
    ·omega
   ·have h1 : (sm k fun v => sm n fun u => if u < v then (if sd side u = sd side v then 0 else W v u) else 0) ≤ k * (n * B) := sm_bound fun v hv => sm_bound fun u hu => by
     have := hT.nn v u (by omega) hu; split
     ·split <;> omega
     ·omega
    rw [← Int.mul_assoc, ← Int.natCast_mul] at h1
    have hkn : k * n ≤ 200 * 200 := Nat.mul_le_mul (by omega) hn
    have h2 : ((k * n : Nat) : Int) * B ≤ 50000 * 1099511627776 := Int.le_trans (Int.mul_le_mul_of_nonneg_right (show ((k * n : Nat) : Int) ≤ 50000 by omega) hB.1) (Int.mul_le_mul_of_nonneg_left hB.2 (by omega))
    omega
  refine ret_loop n (fun k (t : Int × Int) => t.2 = k ∧ t.1 = sm k fun v => sm n fun u => if u < v then (if sd side u = sd side v then 0 else W v u) else 0) ⟨rfl, rfl⟩ ?_
  rintro k ⟨t, i⟩ hk ⟨rfl, rfl⟩
  unfold dissect_Cut_l27
  have hcl : (cadj n W).length = n := cadj_len
  by_cases hkn : k < n
  ·have e1 : getI (cadj n W) (k : Int) = some ((nbs n (W k)).map Int.ofNat) := cadj_get hkn
   have e5 : (k : Int) < ((cadj n W).length : Int) := by omega
   have hw : wa .i64 (k : Int) 1 = ((k + 1 : Nat) : Int) := wa1 (by omega)
   have e2 := cut_row hn hT hB hs hkn (hb k hk)
   simp only [ret_bind, ret_if, ret_get, ret_set, ret_app, ret_mkL, ret_sli, ret_wr, ret_wq, ret_some, vq_l, vq_r, Int.toNat_natCast, if_true, if_false, obs, decide_false, decide_true, Bool.false_eq_true, Bool.not_true, Bool.not_false, not_true_eq_false, not_false_eq_true, true_implies, false_implies, reduceCtorEq, true_and, and_true, false_and, or_false, false_or, implies_true, e1, e2, e5, hw]
   exact ⟨hkn, rfl⟩
  ·have e5 : ¬ (k : Int) < ((cadj n W).length : Int) := by omega
   have : k = n := by omega
   subst this
   simp only [ret_bind, ret_if, ret_get, ret_set, ret_app, ret_mkL, ret_sli, ret_wr, ret_wq, ret_some, vq_l, vq_r, Int.toNat_natCast, if_true, if_false, obs, decide_false, decide_true, Bool.false_eq_true, Bool.not_true, Bool.not_false, not_true_eq_false, not_false_eq_true, true_implies, false_implies, reduceCtorEq, true_and, and_true, false_and, or_false, false_or, implies_true, e5]
   rfl
 rw [bindS this]

/-- twice the cut -/
theorem cut_twice {n : Nat} {W : Nat → Nat → Int} {B : Int} (hT : Tw n W B) (s : Nat → Int) : 2 * cut n W s = sm n fun v => sm n fun u => if s u = s v then 0 else W v u := by
 rw [sm_half (f := fun v u => if s u = s v then 0 else W v u) (fun i j hi hj => by
  rw [hT.sym i j hi hj]
  by_cases h : s j = s i
  ·rw [if_pos h, if_pos h.symm]
  ·rw [if_neg h, if_neg (fun e => h e.symm)]) (fun i hi => by rw [if_pos rfl])]
 rfl
end Pd
/- DissectCoarse: coarsening keeps the weight and the cuts. -/
namespace Pd
open Pl Sx Go M Vc
set_option linter.unusedVariables false
set_option linter.unusedSimpArgs false
set_option maxHeartbeats 4000000

theorem total_ok {vx : List Int} {n : Nat} (hn : n ≤ 200) (hl : vx.length = n) (hw : ∀ x, x ∈ vx → Wg x) (a e : List (List Int)) : sparseref18_Total a vx e = some (sm n (vw vx)) := by
 have hv : ∀ v, v < n → vx[v]? = some (vw vx v) ∧ 1 ≤ vw vx v ∧ vw vx v ≤ 1099511627776 := by
  intro v hvn
  obtain ⟨x, hx⟩ : ∃ x, vx[v]? = some x := ⟨vx[v]'(by omega), by simp [show v < vx.length by omega]⟩
  have := hw x (mem_get hx)
  rw [vw_get hx]
  exact ⟨hx, this.1, this.2⟩
 have hb : ∀ k, k ≤ n → 0 ≤ sm k (vw vx) ∧ sm k (vw vx) ≤ k * 1099511627776 := by
  intro k hk
  exact ⟨sm_nonneg fun i hi => by have := hv i (by omega); omega, sm_bound fun i hi => (hv i (by omega)).2.2⟩
 have h1 : loop (sparseref18_Total_l1 vx) (0, 0) = some (sm n (vw vx)) := by
  refine Ret.eq ?_
  refine ret_loop n (fun k (t : Int × Int) => t = (sm k (vw vx), (k : Int))) rfl ?_
  rintro k _ hk rfl
  unfold sparseref18_Total_l1
  by_cases hkn : k < n
  ·obtain ⟨g1, g2, g3⟩ := hv k hkn
   have e1 : getI vx (k : Int) = some (vw vx k) := g1
   have e5 : (k : Int) < (vx.length : Int) := by omega
   have hw : wa .i64 (k : Int) 1 = ((k + 1 : Nat) : Int) := wa1 (by omega)
   obtain ⟨b1, b2⟩ := hb k hk
   have hk2 : (k : Int) * 1099511627776 ≤ 200 * 1099511627776 := by omega
   have hw2 : wa .i64 (sm k (vw vx)) (vw vx k) = sm (k + 1) (vw vx) := by
    rw [wa_in (by constructor <;> omega)]
    rfl
   clear hb
   simp only [ret_bind, ret_if, ret_get, ret_set, ret_app, ret_mkL, ret_sli, ret_wr, ret_wq, ret_some, vq_l, vq_r, Int.toNat_natCast, if_true, if_false, obs, decide_false, decide_true, Bool.false_eq_true, Bool.not_true, Bool.not_false, not_true_eq_false, not_false_eq_true, true_implies, false_implies, reduceCtorEq, true_and, and_true, false_and, or_false, false_or, implies_true, e1, e5, hw, hw2]
   omega
  ·have e5 : ¬ (k : Int) < (vx.length : Int) := by omega
   have : k = n := by omega
   subst this
   simp only [ret_bind, ret_if, ret_get, ret_set, ret_app, ret_mkL, ret_sli, ret_wr, ret_wq, ret_some, vq_l, vq_r, Int.toNat_natCast, if_true, if_false, obs, decide_false, decide_true, Bool.false_eq_true, Bool.not_true, Bool.not_false, not_true_eq_false, not_false_eq_true, true_implies, false_implies, reduceCtorEq, true_and, and_true, false_and, or_false, false_or, implies_true, e5]
 unfold sparseref18_Total
 rw [bindS h1]

end Pd
/- Refining does not raise the cut. -/
namespace Pd
open Pl Sx Go M Vc
set_option linter.unusedVariables false
set_option linter.unusedSimpArgs false
set_option maxHeartbeats 4000000

theorem sm_iteR {n : Nat} {c : Prop} [Decidable c] {f : Nat → Int} : (sm n fun i => if c then f i else 0) = if c then sm n f else 0 := by
 by_cases h : c
 ·rw [if_pos h]; exact sm_congr fun i _ => if_pos h
 ·rw [if_neg h]; exact sm_zero fun i _ => if_neg h

/-- what moving x gains -/
def gn (n : Nat) (W : Nat → Nat → Int) (s : Nat → Int) (x : Nat) : Int := sm n fun u => if s u = s x then - W x u else W x u

theorem cut_flip {n : Nat} {W : Nat → Nat → Int} {B : Int} (hT : Tw n W B) {s : Nat → Int} (h01 : ∀ v, v < n → s v = 0 ∨ s v = 1) {x : Nat} (hx : x < n) :
  cut n W (fun v => if v = x then 1 - s x else s v) = cut n W s - gn n W s x := by
 have h1 := cut_twice hT s
 have h2 := cut_twice hT (fun v => if v = x then 1 - s x else s v)
 have key : (sm n fun v => sm n fun u => if (if u = x then 1 - s x else s u) = (if v = x then 1 - s x else s v) then 0 else W v u) + gn n W s x + gn n W s x = sm n fun v => sm n fun u => if s u = s v then 0 else W v u := by
  have a1 : gn n W s x = sm n fun v => sm n fun u => if x = v then (if s u = s x then - W x u else W x u) else 0 := by
   have : (sm n fun v => sm n fun u => if x = v then (if s u = s x then - W x u else W x u) else 0) = sm n fun v => if x = v then gn n W s x else 0 := sm_congr fun v _ => sm_iteR
   rw [this, sm_one hx]
  have a2 : gn n W s x = sm n fun v => sm n fun u => if x = u then (if s v = s x then - W x v else W x v) else 0 := by
   have : (sm n fun v => sm n fun u => if x = u then (if s v = s x then - W x v else W x v) else 0) = sm n fun v => (if s v = s x then - W x v else W x v) := sm_congr fun v _ => sm_one hx
   rw [this]; rfl
  have e : ∀ (a b c d : Int), b = c → b = d → a + c + d = a + b + b := by intros; omega
  rw [← e _ _ _ _ a1 a2, ← sm_add, ← sm_add]
  refine sm_congr fun v hv => ?_
  rw [← sm_add, ← sm_add]
  refine sm_congr fun u hu => ?_
  have hsx := h01 x hx
  have hsv := h01 v hv
  have hsu := h01 u hu
  by_cases hvx : x = v
  ·subst hvx
   by_cases hux : x = u
   ·subst hux
    have := hT.dg x hx
    simp [this]
   ·have hux' : ¬ u = x := fun e => hux e.symm
    rw [if_neg hux', if_pos rfl, if_pos rfl, if_neg hux]
    by_cases hs : s u = s x
    ·rw [if_pos hs, if_pos hs, if_neg (by omega)]; omega
    ·rw [if_neg hs, if_neg hs, if_pos (by omega)]; omega
  ·have hvx' : ¬ v = x := fun e => hvx e.symm
   rw [if_neg hvx', if_neg hvx]
   by_cases hux : x = u
   ·subst hux
    rw [if_pos rfl, if_pos rfl, hT.sym x v hx hv]
    by_cases hs : s v = s x
    ·rw [if_pos hs, if_neg (by omega), if_pos hs.symm]; omega
    ·rw [if_neg hs, if_pos (by omega), if_neg (fun e => hs e.symm)]; omega
   ·have hux' : ¬ u = x := fun e => hux e.symm
    rw [if_neg hux', if_neg hux]; omega
 omega

theorem gain_row {n : Nat} (hn : n ≤ 200) {W : Nat → Nat → Int} {B : Int} (hT : Tw n W B) (hB : 0 ≤ B ∧ B ≤ 1099511627776) {side : List Int} (hs : side.length = n) {v : Nat} (hv : v < n) :
  loop (dissect_refine_l72 ((nbs n (W v)).map Int.ofNat) side (sd side v) (ced n W) (v : Int)) (0, 0) = some (gn n W (sd side) v) := by
 have hnl := nbs_len (n := n) (f := W v)
 have hll : ((nbs n (W v)).map Int.ofNat).length = (nbs n (W v)).length := by simp
 have hget : ∀ u, u < n → side[u]? = some (sd side u) := by
  intro u hu
  obtain ⟨x, hx⟩ : ∃ x, side[u]? = some x := ⟨side[u]'(by omega), by simp [show u < side.length by omega]⟩
  rw [sd_get hx]; exact hx
 have hsum : gn n W (sd side) v = ((nbs n (W v)).map fun u => if sd side u = sd side v then - W v u else W v u).sum := by
  rw [nbs_sum]
  refine sm_congr fun u hu => ?_
  by_cases h : 0 < W v u
  ·rw [if_pos h]
  ·have := hT.nn v u hv hu
   rw [if_neg h]; split <;> omega
 rw [hsum]
 refine Ret.eq ?_
 refine ret_loop (nbs n (W v)).length (fun k (t : Int × Int) => t.2 = k ∧ t.1 = (((nbs n (W v)).take k).map fun u => if sd side u = sd side v then - W v u else W v u).sum ∧ -(k * B) ≤ (((nbs n (W v)).take k).map fun u => if sd side u = sd side v then - W v u else W v u).sum ∧ (((nbs n (W v)).take k).map fun u => if sd side u = sd side v then - W v u else W v u).sum ≤ k * B) ⟨rfl, by simp, by simp, by simp⟩ ?_
 rintro k ⟨t, i⟩ hk ⟨rfl, h1, h2, h3⟩
 simp only at h1
 subst h1
 unfold dissect_refine_l72 dissect_refine_j77
 by_cases hkl : k < (nbs n (W v)).length
 ·obtain ⟨u, hu⟩ : ∃ u, (nbs n (W v))[k]? = some u := ⟨(nbs n (W v))[k], by simp [hkl]⟩
  obtain ⟨hun, hpos⟩ := nbs_mem.1 (List.mem_of_getElem? hu)
  have hwr := hT.nn v u hv hun
  have e0 : getI ((nbs n (W v)).map Int.ofNat) (k : Int) = some (u : Int) := by rw [getI_cast, List.getElem?_map, hu]; rfl
  have e1 : getI side (u : Int) = some (sd side u) := hget u hun
  have e6 : getI (ced n W) (v : Int) = some ((nbs n (W v)).map (W v)) := ced_get hv
  have e7 : getI ((nbs n (W v)).map (W v)) (k : Int) = some (W v u) := by rw [getI_cast, List.getElem?_map, hu]; rfl
  have e5 : (k : Int) < (((nbs n (W v)).map Int.ofNat).length : Int) := by omega
  have hw : wa .i64 (k : Int) 1 = ((k + 1 : Nat) : Int) := wa1 (by omega)
  have gk : (k : Int) * B ≤ 200 * 1099511627776 := Int.le_trans (Int.mul_le_mul_of_nonneg_right (show (k : Int) ≤ 200 by omega) hB.1) (Int.mul_le_mul_of_nonneg_left hB.2 (by omega))
  have hk1 : ((k + 1 : Nat) : Int) * B = k * B + B := by rw [Int.natCast_add, Int.add_mul]; omega
  have hts : (((nbs n (W v)).take (k + 1)).map fun u => if sd side u = sd side v then - W v u else W v u).sum = (((nbs n (W v)).take k).map fun u => if sd side u = sd side v then - W v u else W v u).sum + (if sd side u = sd side v then - W v u else W v u) := by
   rw [tks hu, List.map_append, List.sum_append]; simp
  rw [hts, hk1]
  generalize (((nbs n (W v)).take k).map fun u => if sd side u = sd side v then - W v u else W v u).sum = S at *
  by_cases hsd : sd side u = sd side v
  ·have hw2 : ws .i64 S (W v u) = S + - W v u := by rw [ws_in (by constructor <;> omega)]; rfl
   simp only [ret_bind, ret_if, ret_get, ret_set, ret_app, ret_mkL, ret_sli, ret_wr, ret_wq, ret_some, vq_l, vq_r, Int.toNat_natCast, if_true, if_false, obs, decide_false, decide_true, Bool.false_eq_true, Bool.not_true, Bool.not_false, not_true_eq_false, not_false_eq_true, true_implies, false_implies, reduceCtorEq, true_and, and_true, false_and, or_false, false_or, implies_true, e0, e1, e5, e6, e7, hsd, hw2, hw]
   exact ⟨hkl, by omega, by omega⟩
  ·have hw2 : wa .i64 S (W v u) = S + W v u := wa_i (by omega) (by omega)
   simp only [ret_bind, ret_if, ret_get, ret_set, ret_app, ret_mkL, ret_sli, ret_wr, ret_wq, ret_some, vq_l, vq_r, Int.toNat_natCast, if_true, if_false, obs, decide_false, decide_true, Bool.false_eq_true, Bool.not_true, Bool.not_false, not_true_eq_false, not_false_eq_true, true_implies, false_implies, reduceCtorEq, true_and, and_true, false_and, or_false, false_or, implies_true, e0, e1, e5, e6, e7, hsd, hw2, hw]
   exact ⟨hkl, by omega, by omega⟩
 ·have e5 : ¬ (k : Int) < (((nbs n (W v)).map Int.ofNat).length : Int) := by omega
  rw [take_all (by omega)]
  simp only [ret_bind, ret_if, ret_get, ret_set, ret_app, ret_mkL, ret_sli, ret_wr, ret_wq, ret_some, vq_l, vq_r, Int.toNat_natCast, if_true, if_false, obs, decide_false, decide_true, Bool.false_eq_true, Bool.not_true, Bool.not_false, not_true_eq_false, not_false_eq_true, true_implies, false_implies, reduceCtorEq, true_and, and_true, false_and, or_false, false_or, implies_true, e5]

theorem st_ok {l : List Int} {x : Int} (y : Int) (hx : 0 ≤ x) (hl : x < l.length) : setI l x y = some (l.set x.toNat y) := by
 obtain ⟨k, rfl⟩ := Int.eq_ofNat_of_zero_le hx
 rw [setI_lt (by omega)]; rfl

theorem size_ok {n : Nat} (hn : n ≤ 200) {side vx : List Int} (hs : side.length = n) (h01 : S01 side) (hv : vx.length = n) : Ret (loop (dissect_refine_l1 side vx) ([0, 0], 0)) (fun o => o.length = 2) := by
 refine ret_loop n (fun k (t : List Int × Int) => t.2 = k ∧ t.1.length = 2) ⟨rfl, rfl⟩ ?_
 rintro k ⟨z, i⟩ hk ⟨rfl, h1⟩
 simp only at h1
 unfold dissect_refine_l1
 simp only
 by_cases hkn : k < n
 ·obtain ⟨x, hx⟩ : ∃ x, side[k]? = some x := ⟨side[k]'(by omega), by simp [show k < side.length by omega]⟩
  obtain ⟨y, hy⟩ : ∃ y, vx[k]? = some y := ⟨vx[k]'(by omega), by simp [show k < vx.length by omega]⟩
  have hw : wa .i64 (k : Int) 1 = ((k + 1 : Nat) : Int) := wa1 (by omega)
  have hx01 := h01 x (mem_get hx)
  obtain ⟨a, ha⟩ : ∃ a, z[x.toNat]? = some a := ⟨z[x.toNat]'(by omega), by simp [show x.toNat < z.length by omega]⟩
  have e1 : getI side (k : Int) = some x := hx
  have e2 : getI vx (k : Int) = some y := hy
  have e3 : getI z x = some a := getI_of (by omega) ha
  have e5 : (k : Int) < (side.length : Int) := by omega
  rw [if_pos e5, bindS e1, bindS e3, bindS e2, bindS (st_ok (x := x) (wa .i64 a y) (by omega) (by omega)), hw]
  simp only [ret_bind, ret_if, ret_get, ret_set, ret_app, ret_mkL, ret_sli, ret_wr, ret_wq, ret_some, vq_l, vq_r, Int.toNat_natCast, if_true, if_false, obs, decide_false, decide_true, Bool.false_eq_true, Bool.not_true, Bool.not_false, not_true_eq_false, not_false_eq_true, true_implies, false_implies, reduceCtorEq, true_and, and_true, false_and, or_false, false_or, implies_true]
  exact ⟨hkn, by simp [h1]⟩
 ·have e5 : ¬ (k : Int) < (side.length : Int) := by omega
  rw [if_neg e5]
  simp only [ret_bind, ret_if, ret_get, ret_set, ret_app, ret_mkL, ret_sli, ret_wr, ret_wq, ret_some, vq_l, vq_r, Int.toNat_natCast, if_true, if_false, obs, decide_false, decide_true, Bool.false_eq_true, Bool.not_true, Bool.not_false, not_true_eq_false, not_false_eq_true, true_implies, false_implies, reduceCtorEq, true_and, and_true, false_and, or_false, false_or, implies_true]
  exact h1

/-- what refining keeps -/
structure Rf (n : Nat) (W : Nat → Nat → Int) (C : Int) (side size : List Int) : Prop where
 sl : side.length = n
 s01 : S01 side
 le : cut n W (sd side) ≤ C
 zl : size.length = 2

theorem pass_ok {n : Nat} (hn : n ≤ 200) {W : Nat → Nat → Int} {B : Int} (hT : Tw n W B) (hB : 0 ≤ B ∧ B ≤ 1099511627776) {vx : List Int} (hv : vx.length = n) {C : Int} {side0 : List Int} (h0 : side0.length = n) (x26 x27 : Int) {side size : List Int} (h : Rf n W C side size) :
  Ret (loop (dissect_refine_l69 side0 (cadj n W) (ced n W) vx x26 x27) (side, size, false, 0)) (fun o => Rf n W C o.1 o.2.1) := by
 refine ret_loop n (fun k (t : List Int × List Int × Bool × Int) => t.2.2.2 = k ∧ Rf n W C t.1 t.2.1) ⟨rfl, h⟩ ?_
 rintro k ⟨sd', z, mv, i⟩ hk ⟨hi, h1⟩
 simp only at hi h1
 subst hi
 unfold dissect_refine_l69
 simp only
 by_cases hkn : k < n
 ·have hsl := h1.sl
  obtain ⟨s, hs⟩ : ∃ s, sd'[k]? = some s := ⟨sd'[k]'(by omega), by simp [show k < sd'.length by omega]⟩
  have hs01 := h1.s01 s (mem_get hs)
  have hsd := sd_get hs
  have hw : wa .i64 (k : Int) 1 = ((k + 1 : Nat) : Int) := wa1 (by omega)
  have hz := h1.zl
  obtain ⟨y, hy⟩ : ∃ y, vx[k]? = some y := ⟨vx[k]'(by omega), by simp [show k < vx.length by omega]⟩
  have e1 : getI sd' (k : Int) = some s := hs
  have e2 : getI vx (k : Int) = some y := hy
  have e3 : getI (cadj n W) (k : Int) = some ((nbs n (W k)).map Int.ofNat) := cadj_get hkn
  have e5 : (k : Int) < (side0.length : Int) := by omega
  have e6 := gain_row hn hT hB hsl hkn
  rw [hsd] at e6
  have ho : ws .i64 1 s = 1 - s := by rw [ws_in (by constructor <;> omega)]
  obtain ⟨a, ha⟩ : ∃ a, z[(1 - s).toNat]? = some a := ⟨z[(1 - s).toNat]'(by omega), by simp [show (1 - s).toNat < z.length by omega]⟩
  obtain ⟨b, hb⟩ : ∃ b, z[s.toNat]? = some b := ⟨z[s.toNat]'(by omega), by simp [show s.toNat < z.length by omega]⟩
  have e7 : getI z (1 - s) = some a := getI_of (by omega) ha
  have e8 : getI z s = some b := getI_of (by omega) hb
  rw [if_pos e5, bindS e1, bindS e3, bindS e6, ho]
  have tail : ∀ (z' : List Int) (mv' : Bool) (sd'' : List Int), Rf n W C sd'' z' → Ret (dissect_refine_j76 (k : Int) sd'' z' mv') (VQ (fun t' : List Int × List Int × Bool × Int => k < n ∧ t'.2.2.2 = ((k + 1 : Nat) : Int) ∧ Rf n W C t'.1 t'.2.1) (fun o => Rf n W C o.1 o.2.1)) := by
   intro z' mv' sd'' hR
   unfold dissect_refine_j76
   rw [hw]
   simp only [ret_bind, ret_if, ret_get, ret_set, ret_app, ret_mkL, ret_sli, ret_wr, ret_wq, ret_some, vq_l, vq_r, Int.toNat_natCast, if_true, if_false, obs, decide_false, decide_true, Bool.false_eq_true, Bool.not_true, Bool.not_false, not_true_eq_false, not_false_eq_true, true_implies, false_implies, reduceCtorEq, true_and, and_true, false_and, or_false, false_or, implies_true]
   exact ⟨hkn, hR⟩
  by_cases hg : 0 < gn n W (sd sd') k
  ·rw [if_pos hg, bindS e7, bindS e2]
   generalize decide (wm .i64 3 (wa .i64 a y) ≤ wm .i64 2 (wa .i64 x26 x27)) = d
   rw [bindS rfl]
   cases d with
   | true =>
    rw [if_pos rfl, bindS (st_ok _ (by omega) (by omega)), bindS e8, bindS e2, bindS (st_ok _ (by omega) (by omega))]
    have e9 : getI (z.set s.toNat (ws .i64 b y)) (1 - s) = some a := by
     refine getI_of (by omega) ?_
     rw [List.getElem?_set, if_neg (by omega)]
     exact ha
    rw [bindS e9, bindS e2, bindS (st_ok _ (by omega) (by simp; omega))]
    refine tail _ _ _ ⟨by simp [hsl], ?_, ?_, by simp [hz]⟩
    ·intro x hx
     rcases List.mem_or_eq_of_mem_set hx with hx | rfl
     ·exact h1.s01 x hx
     ·omega
    ·have e : cut n W (sd (sd'.set (k : Int).toNat (1 - s))) = cut n W (fun v => if v = k then 1 - sd sd' k else sd sd' v) := by
      unfold cut
      have q : ∀ v, sd (sd'.set (k : Int).toNat (1 - s)) v = if v = k then 1 - sd sd' k else sd sd' v := by
       intro v
       unfold sd
       rw [List.getElem?_set, hs, Int.toNat_natCast]
       by_cases hvk : k = v
       ·rw [if_pos hvk, if_pos hvk.symm, if_pos (by omega)]; rfl
       ·rw [if_neg hvk, if_neg (fun e => hvk e.symm)]
      simp only [q]
     rw [e, cut_flip hT (fun v hv => by
      obtain ⟨x, hx⟩ : ∃ x, sd'[v]? = some x := ⟨sd'[v]'(by omega), by simp [show v < sd'.length by omega]⟩
      rw [sd_get hx]; exact h1.s01 x (mem_get hx)) hkn]
     have := h1.le
     omega
   | false =>
    rw [if_neg (by simp)]
    exact tail _ _ _ h1
  ·rw [if_neg hg, bindS rfl, if_neg (by simp)]
   exact tail _ _ _ h1
 ·have e5 : ¬ (k : Int) < (side0.length : Int) := by omega
  rw [if_neg e5]
  simp only [ret_bind, ret_if, ret_get, ret_set, ret_app, ret_mkL, ret_sli, ret_wr, ret_wq, ret_some, vq_l, vq_r, Int.toNat_natCast, if_true, if_false, obs, decide_false, decide_true, Bool.false_eq_true, Bool.not_true, Bool.not_false, not_true_eq_false, not_false_eq_true, true_implies, false_implies, reduceCtorEq, true_and, and_true, false_and, or_false, false_or, implies_true]
  exact h1

theorem refine_ok {n : Nat} (hn : n ≤ 200) {W : Nat → Nat → Int} {B : Int} (hT : Tw n W B) (hB : 0 ≤ B ∧ B ≤ 1099511627776) {vx : List Int} (hv : vx.length = n) {side : List Int} (h0 : side.length = n) (h01 : S01 side) :
  Ret (dissect_refine (cadj n W) vx (ced n W) side) (fun o => o.length = n ∧ S01 o ∧ cut n W (sd o) ≤ cut n W (sd side)) := by
 unfold dissect_refine
 obtain ⟨z, z1, z2⟩ := size_ok hn h0 h01 hv
 obtain ⟨a, b, rfl⟩ : ∃ a b, z = [a, b] := by
  match z, z2 with
  | [a, b], _ => exact ⟨a, b, rfl⟩
 rw [bindS z1, bindS (show getI [a, b] 0 = some a by rfl), bindS (show getI [a, b] 1 = some b by rfl), ret_bind]
 refine ret_call (P := fun o => ∃ s z, (o = .inl s ∨ o = .inr s) ∧ Rf n W (cut n W (sd side)) s z) ?_ ?_
 ·refine ret_loop 4 (fun k (t : List Int × List Int × Int) => t.2.2 = k ∧ Rf n W (cut n W (sd side)) t.1 t.2.1) ⟨rfl, h0, h01, Int.le_refl _, z2⟩ ?_
  rintro k ⟨s, z, i⟩ hk ⟨hi, h1⟩
  simp only at hi h1
  subst hi
  unfold dissect_refine_l52
  simp only
  by_cases hk4 : k < 4
  ·have e5 : (k : Int) < 4 := by omega
   rw [if_pos e5]
   obtain ⟨⟨s', z', mv⟩, o1, o2⟩ := pass_ok hn hT hB hv h1.sl a b h1
   simp only at o2
   have hw : wa .i64 (k : Int) 1 = ((k + 1 : Nat) : Int) := wa1 (by omega)
   rw [bindS o1]
   simp only
   cases mv with
   | true =>
    rw [if_pos rfl, hw]
    simp only [ret_bind, ret_if, ret_get, ret_set, ret_app, ret_mkL, ret_sli, ret_wr, ret_wq, ret_some, vq_l, vq_r, Int.toNat_natCast, if_true, if_false, obs, decide_false, decide_true, Bool.false_eq_true, Bool.not_true, Bool.not_false, not_true_eq_false, not_false_eq_true, true_implies, false_implies, reduceCtorEq, true_and, and_true, false_and, or_false, false_or, implies_true]
    exact ⟨hk4, o2⟩
   | false =>
    rw [if_neg (by simp), ret_some]
    exact ⟨s', z', .inr rfl, o2⟩
  ·have e5 : ¬ (k : Int) < 4 := by omega
   rw [if_neg e5, ret_some]
   exact ⟨s, z, .inl rfl, h1⟩
 ·rintro o ⟨s, z, (rfl | rfl), h⟩
  ·simp only [ret_bind, ret_if, ret_get, ret_set, ret_app, ret_mkL, ret_sli, ret_wr, ret_wq, ret_some, vq_l, vq_r, Int.toNat_natCast, if_true, if_false, obs, decide_false, decide_true, Bool.false_eq_true, Bool.not_true, Bool.not_false, not_true_eq_false, not_false_eq_true, true_implies, false_implies, reduceCtorEq, true_and, and_true, false_and, or_false, false_or, implies_true]; exact ⟨h.sl, h.s01, h.le⟩
  ·simp only [ret_bind, ret_if, ret_get, ret_set, ret_app, ret_mkL, ret_sli, ret_wr, ret_wq, ret_some, vq_l, vq_r, Int.toNat_natCast, if_true, if_false, obs, decide_false, decide_true, Bool.false_eq_true, Bool.not_true, Bool.not_false, not_true_eq_false, not_false_eq_true, true_implies, false_implies, reduceCtorEq, true_and, and_true, false_and, or_false, false_or, implies_true]; exact ⟨h.sl, h.s01, h.le⟩
end Pd
/- Growing: the program's sides are the paper's. -/
namespace Pd
open Pl Sx Go M Vc
set_option linter.unusedVariables false
set_option linter.unusedSimpArgs false
set_option maxHeartbeats 4000000

/-- growing along a list -/
def grow (T : Int) (vx : List Int) : List Int → List Int × Int → (List Int × Int) ⊕ List Int
 | [], st => .inl st
 | v :: l, st => if T ≤ wm .i64 2 st.2 then .inr st.1 else grow T vx l (st.1.set v.toNat 0, wa .i64 st.2 (vx[v.toNat]?.getD 0))
def stp : (List Int × Int) ⊕ List Int → List Int
 | .inl p => p.1
 | .inr s => s
def out1 : List Int ⊕ List Int → List Int
 | .inl s => s
 | .inr s => s

theorem grow_inl {T : Int} {vx : List Int} : ∀ {l : List Int} {st p : List Int × Int}, grow T vx l st = .inl p → p.1.length = st.1.length
 | [], st, p, h => by rw [grow] at h; cases h; rfl
 | v :: l, st, p, h => by
  rw [grow] at h
  split at h
  ·cases h
  ·have := grow_inl h
   simpa using this
theorem grow_append {T : Int} {vx : List Int} : ∀ {a b : List Int} {st : List Int × Int}, grow T vx (a ++ b) st = match grow T vx a st with | .inl p => grow T vx b p | .inr s => .inr s
 | [], b, st => rfl
 | v :: a, b, st => by
  rw [List.cons_append, grow, grow]
  split
  ·rfl
  ·exact grow_append
theorem grow_keeps {T : Int} {vx : List Int} : ∀ {l : List Int} {st : List Int × Int}, S01 st.1 → (stp (grow T vx l st)).length = st.1.length ∧ S01 (stp (grow T vx l st))
 | [], st, h => ⟨rfl, h⟩
 | v :: l, st, h => by
  rw [grow]
  split
  ·exact ⟨rfl, h⟩
  ·have := grow_keeps (T := T) (vx := vx) (l := l) (st := (st.1.set v.toNat 0, wa .i64 st.2 (vx[v.toNat]?.getD 0))) (fun x hx => by
    rcases List.mem_or_eq_of_mem_set hx with hx | rfl
    ·exact h x hx
    ·exact .inl rfl)
   exact ⟨by simpa using this.1, this.2⟩
theorem drop_at {α : Type} {l : List α} {k : Nat} {x : α} (h : l[k]? = some x) : l.drop k = x :: l.drop (k + 1) := by
 have hk : k < l.length := by
  refine Classical.byContradiction fun hno => ?_
  rw [List.getElem?_eq_none (by omega)] at h; cases h
 rw [List.drop_eq_getElem_cons hk]
 rw [List.getElem?_eq_getElem hk] at h
 rw [Option.some.inj h]

theorem g4_ok {n : Nat} (hn : n ≤ 200) {vx : List Int} (hv : vx.length = n) (T : Int) {l : List Int} (hl : l.length ≤ 1000000) (hr : ∀ x, x ∈ l → 0 ≤ x ∧ x < n) {s : List Int} {g : Int} (hs : s.length = n) :
  loop (dissect_grown_l4 l T vx) (s, g, 0) = some (grow T vx l (s, g)) := by
 refine Ret.eq ?_
 refine ret_loop l.length (fun k (t : List Int × Int × Int) => t.2.2 = k ∧ t.1.length = n ∧ grow T vx l (s, g) = grow T vx (l.drop k) (t.1, t.2.1)) ⟨rfl, hs, rfl⟩ ?_
 rintro k ⟨a, b, i⟩ hk ⟨hi, h1, h2⟩
 simp only at hi h1 h2
 subst hi
 unfold dissect_grown_l4
 simp only
 by_cases hkl : k < l.length
 ·obtain ⟨x, hx⟩ : ∃ x, l[k]? = some x := ⟨l[k], by simp [hkl]⟩
  have hxr := hr x (mem_get hx)
  have e1 : getI l (k : Int) = some x := hx
  have hw : wa .i64 (k : Int) 1 = ((k + 1 : Nat) : Int) := wa1 (by omega)
  obtain ⟨y, hy⟩ : ∃ y, vx[x.toNat]? = some y := ⟨vx[x.toNat]'(by omega), by simp [show x.toNat < vx.length by omega]⟩
  have e2 : getI vx x = some y := getI_of hxr.1 hy
  rw [drop_at hx, grow, hy] at h2
  rw [if_pos (by omega), bindS e1]
  by_cases hT : T ≤ wm .i64 2 b
  ·rw [if_pos hT] at h2 ⊢
   rw [ret_some, vq_r, h2]
  ·rw [if_neg hT] at h2 ⊢
   rw [bindS (st_ok _ hxr.1 (by omega)), bindS e2, hw, ret_some, vq_l]
   exact ⟨hkl, rfl, by simp [h1], h2⟩
 ·rw [if_neg (by omega), ret_some, vq_r]
  rw [List.drop_eq_nil_of_le (by omega)] at h2
  rw [h2]; rfl

theorem r14_ok {n : Nat} (hn : n ≤ 200) {vx : List Int} (hv : vx.length = n) (T : Int) {L : List (List Int)} {j : Nat} {l : List Int} (hL : L[j]? = some l) (hl : l.length ≤ 1000000) (hr : ∀ x, x ∈ l → 0 ≤ x ∧ x < n) {s : List Int} {g : Int} (hs : s.length = n) :
  loop (sparseref18_Grow_l14 L (j : Int) T vx) (s, g, 0) = some (grow T vx l (s, g)) := by
 refine Ret.eq ?_
 refine ret_loop l.length (fun k (t : List Int × Int × Int) => t.2.2 = k ∧ t.1.length = n ∧ grow T vx l (s, g) = grow T vx (l.drop k) (t.1, t.2.1)) ⟨rfl, hs, rfl⟩ ?_
 rintro k ⟨a, b, i⟩ hk ⟨hi, h1, h2⟩
 simp only at hi h1 h2
 subst hi
 unfold sparseref18_Grow_l14
 simp only
 have e0 : getI L (j : Int) = some l := hL
 rw [bindS e0]
 by_cases hkl : k < l.length
 ·obtain ⟨x, hx⟩ : ∃ x, l[k]? = some x := ⟨l[k], by simp [hkl]⟩
  have hxr := hr x (mem_get hx)
  have e1 : getI l (k : Int) = some x := hx
  have hw : wa .i64 (k : Int) 1 = ((k + 1 : Nat) : Int) := wa1 (by omega)
  obtain ⟨y, hy⟩ : ∃ y, vx[x.toNat]? = some y := ⟨vx[x.toNat]'(by omega), by simp [show x.toNat < vx.length by omega]⟩
  have e2 : getI vx x = some y := getI_of hxr.1 hy
  rw [drop_at hx, grow, hy] at h2
  rw [if_pos (by omega)]
  by_cases hT : T ≤ wm .i64 2 b
  ·rw [if_pos hT] at h2 ⊢
   rw [ret_some, vq_r, h2]
  ·rw [if_neg hT] at h2 ⊢
   rw [bindS e0, bindS e1, bindS (st_ok _ hxr.1 (by omega)), bindS e0, bindS e1, bindS e2, hw, ret_some, vq_l]
   exact ⟨hkl, rfl, by simp [h1], h2⟩
 ·rw [if_neg (by omega), ret_some, vq_r]
  rw [List.drop_eq_nil_of_le (by omega)] at h2
  rw [h2]; rfl

theorem r13_ok {n : Nat} (hn : n ≤ 200) {vx : List Int} (hv : vx.length = n) (T : Int) {L : List (List Int)} (hL : L.length ≤ 1000) (hl : ∀ l, l ∈ L → l.length ≤ 1000) (hr : ∀ l, l ∈ L → ∀ x, x ∈ l → 0 ≤ x ∧ x < n) {s : List Int} {g : Int} (hs : s.length = n) :
  loop (sparseref18_Grow_l13 L T vx) (s, g, 0) = some (grow T vx L.flatten (s, g)) := by
 refine Ret.eq ?_
 refine ret_loop L.length (fun k (t : List Int × Int × Int) => t.2.2 = k ∧ t.1.length = n ∧ grow T vx L.flatten (s, g) = grow T vx (L.drop k).flatten (t.1, t.2.1)) ⟨rfl, hs, rfl⟩ ?_
 rintro k ⟨a, b, i⟩ hk ⟨hi, h1, h2⟩
 simp only at hi h1 h2
 subst hi
 unfold sparseref18_Grow_l13
 simp only
 by_cases hkl : k < L.length
 ·obtain ⟨l, hx⟩ : ∃ x, L[k]? = some x := ⟨L[k], by simp [hkl]⟩
  have hw : wa .i64 (k : Int) 1 = ((k + 1 : Nat) : Int) := wa1 (by omega)
  have e1 := r14_ok hn hv T hx (by have := hl l (mem_get hx); omega) (hr l (mem_get hx)) (s := a) (g := b) h1
  rw [drop_at hx, List.flatten_cons, grow_append] at h2
  rw [if_pos (by omega), bindS e1]
  cases hg : grow T vx l (a, b) with
  | inl p =>
   rw [hg] at h2
   have := grow_inl hg
   simp only
   rw [hw, ret_some, vq_l]
   exact ⟨hkl, rfl, by simpa [h1] using this, h2⟩
  | inr s' =>
   rw [hg] at h2
   simp only
   rw [ret_some, vq_r, h2]
 ·rw [if_neg (by omega), ret_some, vq_r]
  rw [List.drop_eq_nil_of_le (by omega)] at h2
  rw [h2]; rfl

theorem concat_ok {L : List (List Int)} (hL : L.length ≤ 1000) (hl : ∀ l, l ∈ L → l.length ≤ 1000) : slices_Concat_int L = some L.flatten := by
 unfold slices_Concat_int
 have fl : ∀ k, k ≤ L.length → (L.take k).flatten.length ≤ k * 1000 := by
  intro k hk
  induction k with
  | zero => simp
  | succ k ih =>
   obtain ⟨x, hx⟩ : ∃ x, L[k]? = some x := ⟨L[k], by simp [show k < L.length by omega]⟩
   have e : (L.take (k + 1)).flatten.length = (L.take k).flatten.length + x.length := by
    rw [tks hx, List.flatten_append, List.length_append, List.flatten_singleton]
   have := ih (by omega)
   have := hl x (mem_get hx)
   omega
 have h1 : loop (slices_Concat_int_l3 L) (0, 0) = some (L.flatten.length : Int) := by
  refine Ret.eq ?_
  refine ret_loop L.length (fun k (t : Int × Int) => t = (((L.take k).flatten.length : Int), (k : Int))) rfl ?_
  rintro k _ hk rfl
  unfold slices_Concat_int_l3 slices_Concat_int_j5
  simp only
  have hf := fl k hk
  by_cases hkl : k < L.length
  ·obtain ⟨x, hx⟩ : ∃ x, L[k]? = some x := ⟨L[k], by simp [hkl]⟩
   have hw : wa .i64 (k : Int) 1 = ((k + 1 : Nat) : Int) := wa1 (by omega)
   have hxl := hl x (mem_get hx)
   have e1 : getI L (k : Int) = some x := hx
   have hw2 : wa .i64 ((L.take k).flatten.length : Int) (x.length : Int) = (((L.take (k + 1)).flatten.length : Nat) : Int) := by
    rw [wa_in (by constructor <;> omega), tks hx, List.flatten_append, List.length_append, List.flatten_singleton]
    omega
   rw [if_pos (by omega), bindS e1, hw2, if_neg (by omega), hw, ret_some, vq_l]
   exact ⟨hkl, rfl⟩
  ·rw [if_neg (by omega), ret_some, vq_r, take_all (by omega)]
 have hF := fl L.length (Nat.le_refl _)
 rw [List.take_length] at hF
 have h2 : slices_Grow_int (L.flatten.length : Int) = some [] := by
  unfold slices_Grow_int slices_Grow_int_j1 slices_Grow_int_j2
  rw [if_neg (by omega)]
  have e0 : ws .i64 0 0 = 0 := by rw [ws_in (by constructor <;> omega)]; rfl
  have e1 : ws .i64 (L.flatten.length : Int) 0 = (L.flatten.length : Int) := by rw [ws_in (by constructor <;> omega)]; omega
  rw [e0, e1]
  by_cases h : (0 : Int) < (L.flatten.length : Int)
  ·rw [if_pos h]
   unfold mkLp
   rw [if_pos h, bindS (mkL_nat 0 _ (by omega))]
   rfl
  ·rw [if_neg h]
 have h3 : loop (slices_Concat_int_l4 L) ([], 0) = some L.flatten := by
  refine Ret.eq ?_
  refine ret_loop L.length (fun k (t : List Int × Int) => t = ((L.take k).flatten, (k : Int))) rfl ?_
  rintro k _ hk rfl
  unfold slices_Concat_int_l4
  simp only
  have hf := fl k hk
  by_cases hkl : k < L.length
  ·obtain ⟨x, hx⟩ : ∃ x, L[k]? = some x := ⟨L[k], by simp [hkl]⟩
   have hw : wa .i64 (k : Int) 1 = ((k + 1 : Nat) : Int) := wa1 (by omega)
   have hxl := hl x (mem_get hx)
   have e1 : getI L (k : Int) = some x := hx
   have e2 : app (L.take k).flatten x = some (L.take (k + 1)).flatten := by
    unfold app BIG
    rw [if_pos (by omega), tks hx, List.flatten_append]; simp
   rw [if_pos (by omega), bindS e1, bindS e2, hw, ret_some, vq_l]
   exact ⟨hkl, rfl⟩
  ·rw [if_neg (by omega), ret_some, vq_r, take_all (by omega)]
 rw [bindS h1, bindS h2, bindS h3]

/-- the levels from a component's far vertex -/
def pl (adj : List (List Int)) (c : List Int) : List (List Int) := ((graph_Peripheral adj (c.headD 0)).bind (graph_Levels adj)).getD []
structure Part (adj : List (List Int)) (n : Nat) (c : List Int) : Prop where
 ex : ∃ (r : Int) (p : Int), getI c 0 = some r ∧ graph_Peripheral adj r = some p ∧ sparseref12_Peripheral adj r = some p ∧ graph_Levels adj p = some (pl adj c) ∧ sparseref12_Levels adj p = some (pl adj c)
 ln : (pl adj c).length ≤ 1000
 sz : ∀ l, l ∈ pl adj c → l.length ≤ 1000
 rg : ∀ l, l ∈ pl adj c → ∀ x, x ∈ l → 0 ≤ x ∧ x < n

theorem part_ok {adj : List (List Int)} (hG : Gr adj) (hn : adj.length ≤ 30) {out : List (List Int)} (hC : CS adj adj.length out) {c : List Int} (hc : c ∈ out) : Part adj adj.length c := by
 obtain ⟨r, hr, hcc, hh⟩ := hC.cls c hc
 obtain ⟨a, lev, seen, c', a1, a2, a3, a4⟩ := levels_cls hG hn hr
 obtain ⟨p, p0, q, b, r', w, rfl, hq, _⟩ := peripheral_ok hG hn hr a1
 have p1 := rper_ok hG hn hr p0
 obtain ⟨o, lev', seen', c'', o1, o2, o3, o4⟩ := levels_cls hG hn hq
 obtain ⟨o', lev2, seen2, r1, r2⟩ := rLevels_ok hG hn hq
 obtain rfl := o2.out_eq r2
 obtain ⟨k1, k2, k3, k4, k5⟩ := bf_pre o2 hq hn
 have hL : graph_Levels adj (q : Int) = some o := by
  unfold graph_Levels graph_vertex
  have hchk := graphCheck_ok hG (show adj.length ≤ 200 by omega)
  have e2 : (q : Int) < (adj.length : Int) := by omega
  have e3 : (0 : Int) ≤ (q : Int) := by omega
  simp [hchk, e2, e3, o1]
 have hp : pl adj c = o := by
  unfold pl
  rw [List.headD_eq_head?_getD, hh, Option.getD_some, p0, Option.bind_some, hL, Option.getD_some]
 have hg : getI c 0 = some (r : Int) := by
  cases c with
  | nil => cases hh
  | cons x c => simp at hh; subst hh; rfl
 exact ⟨⟨r, q, hg, p0, p1, by rw [hp]; exact hL, by rw [hp]; exact r1⟩, by rw [hp]; omega, by rw [hp]; exact k5, by rw [hp]; exact k4⟩

theorem flat_len {L : List (List Int)} : ∀ {a : Nat}, L.length ≤ a → (∀ l, l ∈ L → l.length ≤ 1000) → L.flatten.length ≤ a * 1000 := by
 induction L with
 | nil => intros; simp
 | cons x L ih =>
  intro a ha hl
  have h1 := hl x (by simp)
  have h2 := ih (a := a - 1) (by simp at ha; omega) (fun l h => hl l (by simp [h]))
  rw [List.flatten_cons, List.length_append]
  simp at ha
  omega

theorem g3_ok {n : Nat} (hn : n ≤ 200) {vx : List Int} (hv : vx.length = n) (T : Int) {adj : List (List Int)} {C : List (List Int)} (hC : C.length ≤ 1000) (hP : ∀ c, c ∈ C → Part adj n c) {s : List Int} {g : Int} (hs : s.length = n) :
  Ret (loop (dissect_grown_l3 C adj T vx) (s, g, 0)) (fun o => out1 o = stp (grow T vx (C.map fun c => (pl adj c).flatten).flatten (s, g))) := by
 refine ret_loop C.length (fun k (t : List Int × Int × Int) => t.2.2 = k ∧ t.1.length = n ∧ grow T vx (C.map fun c => (pl adj c).flatten).flatten (s, g) = grow T vx ((C.drop k).map fun c => (pl adj c).flatten).flatten (t.1, t.2.1)) ⟨rfl, hs, rfl⟩ ?_
 rintro k ⟨a, b, i⟩ hk ⟨hi, h1, h2⟩
 simp only at hi h1 h2
 subst hi
 unfold dissect_grown_l3
 simp only
 by_cases hkl : k < C.length
 ·obtain ⟨c, hx⟩ : ∃ x, C[k]? = some x := ⟨C[k], by simp [hkl]⟩
  have hw : wa .i64 (k : Int) 1 = ((k + 1 : Nat) : Int) := wa1 (by omega)
  obtain ⟨⟨r, p, c1, c2, c3, c4, c5⟩, q1, q2, q3⟩ := hP c (mem_get hx)
  have e0 : getI C (k : Int) = some c := hx
  have e1 := g4_ok hn hv T (l := (pl adj c).flatten) (by have := flat_len q1 q2; omega) (fun x hx => by obtain ⟨l, l1, l2⟩ := List.mem_flatten.1 hx; exact q3 l l1 x l2) (s := a) (g := b) h1
  rw [drop_at hx, List.map_cons, List.flatten_cons, grow_append] at h2
  rw [if_pos (by omega), bindS e0, bindS c1, bindS c2, bindS c4, bindS (concat_ok q1 q2), bindS e1]
  cases hg : grow T vx (pl adj c).flatten (a, b) with
  | inl p =>
   rw [hg] at h2
   have := grow_inl hg
   simp only
   rw [hw, ret_some, vq_l]
   exact ⟨hkl, rfl, by simpa [h1] using this, h2⟩
  | inr s' =>
   rw [hg] at h2
   simp only
   rw [ret_some, vq_r, h2]
   rfl
 ·rw [if_neg (by omega), ret_some, vq_r]
  rw [List.drop_eq_nil_of_le (by omega)] at h2
  rw [h2]; rfl

theorem r10_ok {n : Nat} (hn : n ≤ 200) {vx : List Int} (hv : vx.length = n) (T : Int) {adj : List (List Int)} {C : List (List Int)} (hC : C.length ≤ 1000) (hP : ∀ c, c ∈ C → Part adj n c) {s : List Int} {g : Int} (hs : s.length = n) :
  Ret (loop (sparseref18_Grow_l10 C adj T vx) (s, g, 0)) (fun o => out1 o = stp (grow T vx (C.map fun c => (pl adj c).flatten).flatten (s, g))) := by
 refine ret_loop C.length (fun k (t : List Int × Int × Int) => t.2.2 = k ∧ t.1.length = n ∧ grow T vx (C.map fun c => (pl adj c).flatten).flatten (s, g) = grow T vx ((C.drop k).map fun c => (pl adj c).flatten).flatten (t.1, t.2.1)) ⟨rfl, hs, rfl⟩ ?_
 rintro k ⟨a, b, i⟩ hk ⟨hi, h1, h2⟩
 simp only at hi h1 h2
 subst hi
 unfold sparseref18_Grow_l10
 simp only
 by_cases hkl : k < C.length
 ·obtain ⟨c, hx⟩ : ∃ x, C[k]? = some x := ⟨C[k], by simp [hkl]⟩
  have hw : wa .i64 (k : Int) 1 = ((k + 1 : Nat) : Int) := wa1 (by omega)
  obtain ⟨⟨r, p, c1, c2, c3, c4, c5⟩, q1, q2, q3⟩ := hP c (mem_get hx)
  have e0 : getI C (k : Int) = some c := hx
  have e1 := r13_ok hn hv T q1 q2 q3 (s := a) (g := b) h1
  rw [drop_at hx, List.map_cons, List.flatten_cons, grow_append] at h2
  rw [if_pos (by omega), bindS e0, bindS c1, bindS c3, bindS c5, bindS e1]
  cases hg : grow T vx (pl adj c).flatten (a, b) with
  | inl p =>
   rw [hg] at h2
   have := grow_inl hg
   simp only
   rw [hw, ret_some, vq_l]
   exact ⟨hkl, rfl, by simpa [h1] using this, h2⟩
  | inr s' =>
   rw [hg] at h2
   simp only
   rw [ret_some, vq_r, h2]
   rfl
 ·rw [if_neg (by omega), ret_some, vq_r]
  rw [List.drop_eq_nil_of_le (by omega)] at h2
  rw [h2]; rfl

theorem ones_ok {n : Nat} (hn : n ≤ 200) : loop sparseref18_Grow_l1 (List.replicate n 0, 0) = some (List.replicate n 1) := by
 refine Ret.eq ?_
 refine ret_loop n (fun k (t : List Int × Int) => t = (List.replicate k 1 ++ List.replicate (n - k) 0, (k : Int))) (by simp) ?_
 rintro k _ hk rfl
 unfold sparseref18_Grow_l1
 simp only
 have hl : (List.replicate k (1 : Int) ++ List.replicate (n - k) 0).length = n := by simp; omega
 rw [hl]
 by_cases hkn : k < n
 ·have hw : wa .i64 (k : Int) 1 = ((k + 1 : Nat) : Int) := wa1 (by omega)
  rw [if_pos (by omega), bindS (setI_lt (by omega)), hw, ret_some, vq_l]
  refine ⟨hkn, ?_⟩
  congr 1
  rw [List.set_append_right _ _ (by simp), List.length_replicate, Nat.sub_self, show n - k = (n - (k + 1)) + 1 by omega, List.replicate_succ, List.set_cons_zero, List.replicate_succ', List.append_assoc]
  rfl
 ·rw [if_neg (by omega), ret_some, vq_r, show k = n by omega]
  simp

theorem grown_ok {adj : List (List Int)} {vx : List Int} {ed : List (List Int)} (h : Wt adj vx ed) (hn : adj.length ≤ 30) : ∃ s, dissect_grown adj vx ed = some s ∧ sparseref18_Grow adj vx ed = some s ∧ s.length = adj.length ∧ S01 s := by
 have hG := h.gr
 have hvl := h.vl
 obtain ⟨C, c1, c2⟩ := components_ok hG hn
 obtain ⟨C', r1, r2⟩ := rcomponents_ok hG hn
 obtain rfl := CS.uniq hG c2 r2
 have hcl := c2.len
 have hP : ∀ c, c ∈ C → Part adj adj.length c := fun c hc => part_ok hG hn c2 hc
 have tot := total_ok (vx := vx) (n := adj.length) (by omega) hvl h.vr adj ed
 have tot2 : dissect_total vx = some (sm adj.length (vw vx)) := tot
 have hone : S01 (List.replicate adj.length 1) := fun x hx => .inr (List.eq_of_mem_replicate hx)
 obtain ⟨o, o1, o2⟩ := g3_ok (by omega) hvl (sm adj.length (vw vx)) (by omega) hP (s := List.replicate adj.length 1) (g := 0) (by simp)
 obtain ⟨o', o3, o4⟩ := r10_ok (by omega) hvl (sm adj.length (vw vx)) (by omega) hP (s := List.replicate adj.length 1) (g := 0) (by simp)
 have hk := grow_keeps (T := sm adj.length (vw vx)) (vx := vx) (l := (C.map fun c => (pl adj c).flatten).flatten) (st := (List.replicate adj.length 1, 0)) hone
 refine ⟨_, ?_, ?_, by rw [hk.1]; simp, hk.2⟩
 ·unfold dissect_grown
  rw [hvl, bindS (repeat_ok (by omega) 1), bindS tot2, bindS c1, bindS o1, ← o2]
  cases o <;> rfl
 ·unfold sparseref18_Grow
  rw [hvl, bindS (mkL_nat 0 _ (by omega)), bindS (ones_ok (by omega)), bindS tot, bindS r1, bindS o3, ← o4]
  cases o' <;> rfl
end Pd
/- The paper's check, matching and coarsening. -/
namespace Pd
open Pl Sx Go M Vc
set_option linter.unusedVariables false
set_option linter.unusedSimpArgs false
set_option maxHeartbeats 4000000

theorem loop_simA {σ τ ρ ρ' : Type} {step1 : σ → Option (σ ⊕ ρ)} {step2 : τ → Option (τ ⊕ ρ')} (R : σ → τ → Prop) (Q : ρ → ρ' → Prop) {s : σ} {t : τ} {o : ρ} (hR : R s t)
  (h : ∀ s t r, R s t → step1 s = some r → ∃ r', step2 t = some r' ∧ ((∃ s' t', r = .inl s' ∧ r' = .inl t' ∧ R s' t') ∨ ∃ o o', r = .inr o ∧ r' = .inr o' ∧ Q o o')) (ho : loop step1 s = some o) : ∃ o', loop step2 t = some o' ∧ Q o o' := by
 refine loop_sim R Q hR (fun s t hst => ⟨fun s' hs => ?_, fun o hs => ?_⟩) ho
 ·obtain ⟨r', h1, ⟨a, b, h2, rfl, h3⟩ | ⟨a, b, h2, rfl, h3⟩⟩ := h s t _ hst hs
  ·cases h2; exact ⟨b, h1, h3⟩
  ·cases h2
 ·obtain ⟨r', h1, ⟨a, b, h2, rfl, h3⟩ | ⟨a, b, h2, rfl, h3⟩⟩ := h s t _ hst hs
  ·cases h2
  ·cases h2; exact ⟨b, h1, h3⟩

/-! ### the check -/
theorem edge_ok {n : Nat} (hn : n ≤ 200) {W : Nat → Nat → Int} {B : Int} (hT : Tw n W B) {v u : Nat} (hv : v < n) (hu : u < n) (hp : 0 < W v u) (vx : List Int) : sparseref18_edge (cadj n W) vx (ced n W) (v : Int) (u : Int) = some (W v u) := by
 have hnl := nbs_len (n := n) (f := W v)
 have hll : ((nbs n (W v)).map Int.ofNat).length = (nbs n (W v)).length := by simp
 have e1 : getI (cadj n W) (v : Int) = some ((nbs n (W v)).map Int.ofNat) := cadj_get hv
 have e2 : getI (ced n W) (v : Int) = some ((nbs n (W v)).map (W v)) := ced_get hv
 have hmem : u ∈ nbs n (W v) := nbs_mem.2 ⟨hu, hp⟩
 have h1 : loop (sparseref18_edge_l1 (cadj n W) (v : Int) (u : Int) (ced n W)) 0 = some (.inr (W v u)) := by
  refine Ret.eq ?_
  refine ret_loop (nbs n (W v)).length (fun k (t : Int) => t = (k : Int) ∧ u ∉ (nbs n (W v)).take k) ⟨rfl, by simp⟩ ?_
  rintro k t hk ⟨rfl, hI⟩
  unfold sparseref18_edge_l1
  rw [bindS e1]
  by_cases hkl : k < (nbs n (W v)).length
  ·obtain ⟨x, hx⟩ : ∃ x, (nbs n (W v))[k]? = some x := ⟨(nbs n (W v))[k], by simp [hkl]⟩
   have e3 : getI ((nbs n (W v)).map Int.ofNat) (k : Int) = some (x : Int) := by rw [getI_cast, List.getElem?_map, hx]; rfl
   have e4 : getI ((nbs n (W v)).map (W v)) (k : Int) = some (W v x) := by rw [getI_cast, List.getElem?_map, hx]; rfl
   have hw : wa .i64 (k : Int) 1 = ((k + 1 : Nat) : Int) := wa1 (by omega)
   rw [if_pos (by omega), bindS e1, bindS e3]
   by_cases hxu : x = u
   ·subst hxu
    rw [if_pos rfl, bindS e2, bindS e4, ret_some, vq_r]
   ·rw [if_neg (by omega), hw, ret_some, vq_l]
    refine ⟨hkl, rfl, ?_⟩
    rw [tks hx, List.mem_append, List.mem_singleton]
    rintro (h | h)
    ·exact hI h
    ·exact hxu h.symm
  ·rw [take_all (by omega)] at hI
   exact absurd hmem hI
 unfold sparseref18_edge
 rw [bindS h1]

theorem rcheckW_ok {n : Nat} (hn : n ≤ 200) {W : Nat → Nat → Int} {B : Int} (hT : Tw n W B) {vx : List Int} (hW : Wt (cadj n W) vx (ced n W)) : sparseref18_CheckWeighted (cadj n W) vx (ced n W) = some 0 := by
 have hvl := hW.vl
 have hcl : (cadj n W).length = n := cadj_len
 have hel : (ced n W).length = n := ced_len
 rw [hcl] at hvl
 have h1 : loop (sparseref18_CheckWeighted_l2 (cadj n W) (ced n W)) 0 = some (.inl ()) := by
  refine Ret.eq ?_
  refine ret_loop n (fun k (t : Int) => t = (k : Int)) rfl ?_
  rintro k _ hk rfl
  unfold sparseref18_CheckWeighted_l2
  by_cases hkn : k < n
  ·have e1 : getI (cadj n W) (k : Int) = some ((nbs n (W k)).map Int.ofNat) := cadj_get hkn
   have e2 : getI (ced n W) (k : Int) = some ((nbs n (W k)).map (W k)) := ced_get hkn
   have hw : wa .i64 (k : Int) 1 = ((k + 1 : Nat) : Int) := wa1 (by omega)
   rw [if_pos (by omega), bindS e2, bindS e1, if_pos (by simp), hw, ret_some, vq_l]
   exact ⟨hkn, rfl⟩
  ·rw [if_neg (by omega), ret_some, vq_r]
 have h2 : loop (sparseref18_CheckWeighted_l43 (cadj n W) vx (ced n W)) 0 = some (.inl ()) := by
  refine Ret.eq ?_
  refine ret_loop n (fun k (t : Int) => t = (k : Int)) rfl ?_
  rintro k _ hk rfl
  unfold sparseref18_CheckWeighted_l43
  by_cases hkn : k < n
  ·have e1 : getI (cadj n W) (k : Int) = some ((nbs n (W k)).map Int.ofNat) := cadj_get hkn
   have e2 : getI (ced n W) (k : Int) = some ((nbs n (W k)).map (W k)) := ced_get hkn
   have hw : wa .i64 (k : Int) 1 = ((k + 1 : Nat) : Int) := wa1 (by omega)
   obtain ⟨y, hy⟩ : ∃ y, vx[k]? = some y := ⟨vx[k]'(by omega), by simp [show k < vx.length by omega]⟩
   have hyr := hW.vr y (mem_get hy)
   have e3 : getI vx (k : Int) = some y := hy
   have hnl := nbs_len (n := n) (f := W k)
   have hll : ((nbs n (W k)).map (W k)).length = (nbs n (W k)).length := by simp
   have inner : loop (sparseref18_CheckWeighted_l57 (ced n W) (k : Int) (cadj n W) vx) 0 = some (.inl ()) := by
    refine Ret.eq ?_
    refine ret_loop (nbs n (W k)).length (fun j (t : Int) => t = (j : Int)) rfl ?_
    rintro j _ hj rfl
    unfold sparseref18_CheckWeighted_l57
    rw [bindS e2]
    by_cases hjl : j < (nbs n (W k)).length
    ·obtain ⟨x, hx⟩ : ∃ x, (nbs n (W k))[j]? = some x := ⟨(nbs n (W k))[j], by simp [hjl]⟩
     obtain ⟨hxn, hxp⟩ := nbs_mem.1 (List.mem_of_getElem? hx)
     have e4 : getI ((nbs n (W k)).map Int.ofNat) (j : Int) = some (x : Int) := by rw [getI_cast, List.getElem?_map, hx]; rfl
     have e5 : getI ((nbs n (W k)).map (W k)) (j : Int) = some (W k x) := by rw [getI_cast, List.getElem?_map, hx]; rfl
     have hwj : wa .i64 (j : Int) 1 = ((j + 1 : Nat) : Int) := wa1 (by omega)
     have hg := hW.er _ (mem_get (ced_get hkn)) (W k x) (mem_get (l := (nbs n (W k)).map (W k)) (k := j) (by rw [List.getElem?_map, hx]; rfl))
     have e6 := edge_ok hn hT hxn hkn (by rw [hT.sym x k hxn hkn]; exact hxp) vx
     rw [hT.sym x k hxn hkn] at e6
     rw [if_pos (by omega), bindS e2, bindS e5, if_neg (by have := hg.1; omega), bindS rfl, if_neg (by simp; exact hg.2), bindS e1, bindS e4, bindS e6, bindS rfl, if_neg (by simp), hwj, ret_some, vq_l]
     exact ⟨hjl, rfl⟩
    ·rw [if_neg (by omega), ret_some, vq_r]
   rw [if_pos (by omega), bindS e3, if_neg (by have := hyr.1; omega), bindS e3, bindS rfl, if_neg (by simp; exact hyr.2), bindS inner]
   simp only
   rw [hw, ret_some, vq_l]
   exact ⟨hkn, rfl⟩
  ·rw [if_neg (by omega), ret_some, vq_r]
 unfold sparseref18_CheckWeighted
 rw [bindS (rCheck_ok hW.gr (by omega)), if_pos rfl, if_neg (by simp; omega), bindS h1]
 simp only
 rw [bindS h2]

/-! ### matching -/
theorem getI_nn {α : Type} {l : List α} {i : Int} {x : α} (h : getI l i = some x) : 0 ≤ i ∧ i < l.length ∧ x ∈ l := by
 cases i with
 | ofNat k =>
  have h' : l[k]? = some x := h
  have := mem_get h'
  have : k < l.length := (List.getElem?_eq_some_iff.1 h').1
  exact ⟨by simp, by simp; omega, mem_get h'⟩
 | negSucc k => cases h
theorem setI_nn {α : Type} {l l' : List α} {i : Int} {x : α} (h : setI l i x = some l') : 0 ≤ i ∧ i < l.length ∧ l' = l.set i.toNat x := by
 cases i with
 | ofNat k =>
  have h' : (if k < l.length then some (l.set k x) else none) = some l' := h
  split at h'
  ·obtain rfl := Option.some.inj h'
   exact ⟨by simp, by simp; omega, rfl⟩
  ·cases h'
 | negSucc k => cases h

theorem rmatch_ok {adj : List (List Int)} {vx : List Int} {ed : List (List Int)} (h : Wt adj vx ed) (hn : adj.length ≤ 200) (hr : sparseref18_CheckWeighted adj vx ed = some 0) {m : List Int} (hm : dissect_match adj vx ed = some m) : sparseref18_Match adj vx ed = some (m, 0) := by
 have hvl := h.vl
 have hel := h.el
 unfold dissect_match at hm
 rw [hvl, bindS (repeat_ok (by omega) (-1))] at hm
 obtain ⟨m', hm1, hm2⟩ := bs hm
 obtain rfl := Option.some.inj hm2
 have h0 : loop (sparseref18_Match_l1 vx) ([], 0) = some (List.replicate adj.length (-1)) := by
  refine Ret.eq ?_
  refine ret_loop adj.length (fun k (t : List Int × Int) => t = (List.replicate k (-1), (k : Int))) rfl ?_
  rintro k _ hk rfl
  unfold sparseref18_Match_l1
  simp only
  by_cases hkn : k < adj.length
  ·have hw : wa .i64 (k : Int) 1 = ((k + 1 : Nat) : Int) := wa1 (by omega)
   have e : app (List.replicate k (-1 : Int)) [-1] = some (List.replicate (k + 1) (-1)) := by
    unfold app BIG
    rw [if_pos (by simp; omega), List.replicate_succ']
   rw [if_pos (by omega), bindS e, hw, ret_some, vq_l]
   exact ⟨hkn, rfl⟩
  ·rw [if_neg (by omega), ret_some, vq_r, show k = adj.length by omega]
 obtain ⟨o', q1, rfl⟩ := loop_simA (step1 := dissect_match_l45 adj ed) (step2 := sparseref18_Match_l46 vx ed adj) (fun s t => t = s ∧ ∀ x, x ∈ s.1 → x = -1 ∨ 0 ≤ x) (fun o o' => o' = o) (s := (List.replicate adj.length (-1), 0)) (t := (List.replicate adj.length (-1), 0)) ⟨rfl, fun x hx => .inl (List.eq_of_mem_replicate hx)⟩ (by
  rintro ⟨a, i⟩ t r ⟨rfl, hI⟩ hs
  unfold dissect_match_l45 dissect_match_j60 at hs
  unfold sparseref18_Match_l46 sparseref18_Match_j61
  simp only at hs hI ⊢
  by_cases hi : i < (adj.length : Int)
  ·rw [if_pos hi] at hs
   rw [if_pos (by omega)]
   obtain ⟨l, hl, hs⟩ := bs hs
   obtain ⟨x, hx, hs⟩ := bs hs
   rw [bindS hx]
   obtain ⟨i0, _, hlm⟩ := getI_nn hl
   have hxI := hI x (getI_nn hx).2.2
   obtain ⟨e, he⟩ : ∃ e, ed[i.toNat]? = some e := ⟨ed[i.toNat]'(by omega), by simp [show i.toNat < ed.length by omega]⟩
   have hl' : adj[i.toNat]? = some l := by
    obtain ⟨j, rfl⟩ := Int.eq_ofNat_of_zero_le i0
    exact hl
   have hle := h.rl i.toNat l e hl' he
   have he' : getI ed i = some e := getI_of i0 he
   by_cases hx1 : x = -1
   ·rw [if_pos hx1] at hs
    rw [if_neg (by omega)]
    obtain ⟨b, hb, hs⟩ := bs hs
    obtain ⟨c, hc, hs⟩ := bs hs
    obtain ⟨d, hd, hs⟩ := bs hs
    obtain rfl := Option.some.inj hs
    obtain ⟨b', k1, rfl⟩ := loop_simA (step1 := dissect_match_l65 l a ed i) (step2 := sparseref18_Match_l66 ed i adj a) (fun s t => t = s) (fun o o' => o' = o) (s := (i, 0, 0)) (t := (i, 0, 0)) rfl (by
     rintro ⟨b, w, j⟩ t r rfl hs
     unfold dissect_match_l65 dissect_match_j67 at hs
     unfold sparseref18_Match_l66 sparseref18_Match_j68
     simp only at hs ⊢
     rw [bindS he']
     by_cases hj : j < (l.length : Int)
     ·rw [if_pos hj] at hs
      rw [if_pos (by omega), bindS hl]
      obtain ⟨u, hu, hs⟩ := bs hs
      obtain ⟨y, hy, hs⟩ := bs hs
      rw [bindS hu, bindS hy]
      have hyI := hI y (getI_nn hy).2.2
      by_cases hy1 : y = -1
      ·rw [if_pos hy1] at hs
       rw [if_pos (by omega)]
       rw [bindS he'] at hs ⊢
       obtain ⟨g, hg, hs⟩ := bs hs
       obtain ⟨z, hz, hg⟩ := bs hg
       obtain rfl := Option.some.inj hg
       rw [bindS hz, bindS rfl]
       by_cases hwz : w < z
       ·rw [if_pos (by simpa using hwz)] at hs ⊢
        rw [bindS he', bindS hz] at hs ⊢
        obtain rfl := Option.some.inj hs
        exact ⟨_, rfl, .inl ⟨_, _, rfl, rfl, rfl⟩⟩
       ·rw [if_neg (by simpa using hwz)] at hs ⊢
        obtain rfl := Option.some.inj hs
        exact ⟨_, rfl, .inl ⟨_, _, rfl, rfl, rfl⟩⟩
      ·rw [if_neg hy1, bindS rfl, if_neg (by simp)] at hs
       rw [if_neg (by omega), bindS rfl, if_neg (by simp)]
       obtain rfl := Option.some.inj hs
       exact ⟨_, rfl, .inl ⟨_, _, rfl, rfl, rfl⟩⟩
     ·rw [if_neg hj] at hs
      rw [if_neg (by omega)]
      obtain rfl := Option.some.inj hs
      exact ⟨_, rfl, .inr ⟨_, _, rfl, rfl, rfl⟩⟩) hb
    rw [bindS k1, bindS hc, bindS hd]
    refine ⟨_, rfl, .inl ⟨_, _, rfl, rfl, rfl, ?_⟩⟩
    intro y hy
    obtain ⟨d1, d2, rfl⟩ := setI_nn hd
    obtain ⟨c1, c2, rfl⟩ := setI_nn hc
    rcases List.mem_or_eq_of_mem_set hy with hy | rfl
    ·rcases List.mem_or_eq_of_mem_set hy with hy | rfl
     ·exact hI y hy
     ·exact .inr d1
    ·exact .inr i0
   ·rw [if_neg hx1] at hs
    rw [if_pos (by omega)]
    obtain rfl := Option.some.inj hs
    exact ⟨_, rfl, .inl ⟨_, _, rfl, rfl, rfl, hI⟩⟩
  ·rw [if_neg hi] at hs
   rw [if_neg (by omega)]
   obtain rfl := Option.some.inj hs
   exact ⟨_, rfl, .inr ⟨_, _, rfl, rfl, rfl⟩⟩) hm1
 unfold sparseref18_Match
 rw [bindS hr, if_pos rfl, bindS h0, bindS q1]
end Pd
/- The paper's coarsening. -/
namespace Pd
open Pl Sx Go M Vc
set_option linter.unusedVariables false
set_option linter.unusedSimpArgs false
set_option maxHeartbeats 4000000

theorem rmates_true {n : Nat} {m vx : List Int} (h : Ml n m) (hn : n ≤ 200) (hv : vx.length = n) : loop (sparseref18_Coarsen_l5 vx m) 0 = some (.inl ()) := by
 have hml := h.len
 refine Ret.eq ?_
 refine ret_loop m.length (fun k (t : Int) => t = (k : Int)) rfl ?_
 rintro k _ hk rfl
 unfold sparseref18_Coarsen_l5
 by_cases hkn : k < m.length
 ·obtain ⟨u, hu⟩ : ∃ u, m[k]? = some u := ⟨m[k], by simp [hkn]⟩
  obtain ⟨g1, g2⟩ := h.mate k u hu
  have e1 : getI m (k : Int) = some u := hu
  have e2 : getI m u = some (k : Int) := getI_of g1.1 g2
  have hw : wa .i64 (k : Int) 1 = ((k + 1 : Nat) : Int) := wa1 (by omega)
  rw [if_pos (by omega), bindS e1, if_neg (by omega), bindS e1, bindS rfl, if_neg (by simp; omega), bindS e1, bindS e2, bindS rfl, if_neg (by simp), hw, ret_some, vq_l]
  exact ⟨hkn, rfl⟩
 ·rw [if_neg (by omega), ret_some, vq_r]

theorem rmerge {m vx vs to z : List Int} (hl : m.length = vx.length) (h : loop (dissect_coarsen_l3 m vx) ([], z, 0) = some (vs, to)) : loop (sparseref18_Coarsen_l8 vx m) (z, [], 0) = some (to, vs) := by
 obtain ⟨o', q1, rfl⟩ := loop_simA (step1 := dissect_coarsen_l3 m vx) (step2 := sparseref18_Coarsen_l8 vx m) (fun s t => t = (s.2.1, s.1, s.2.2)) (fun o o' => o' = (o.2, o.1)) (s := ([], z, 0)) (t := (z, [], 0)) rfl (by
  rintro ⟨a, b, i⟩ t r rfl hs
  unfold dissect_coarsen_l3 dissect_coarsen_j50 at hs
  unfold sparseref18_Coarsen_l8 sparseref18_Coarsen_j54
  simp only at hs ⊢
  by_cases hi : i < (m.length : Int)
  ·rw [if_pos hi] at hs
   rw [if_pos (by omega)]
   obtain ⟨x, hx, hs⟩ := bs hs
   rw [bindS hx]
   by_cases hxi : x < i
   ·rw [if_pos hxi] at hs ⊢
    obtain ⟨c, hc, hs⟩ := bs hs
    obtain ⟨d, hd, hs⟩ := bs hs
    obtain ⟨e, he, hs⟩ := bs hs
    obtain ⟨f, hf, hs⟩ := bs hs
    obtain ⟨g, hg, hs⟩ := bs hs
    obtain ⟨k, hk, hs⟩ := bs hs
    obtain rfl := Option.some.inj hs
    rw [bindS hx, bindS hc, bindS hd, bindS he, bindS he, bindS hf, bindS hg, bindS hk]
    exact ⟨_, rfl, .inl ⟨_, _, rfl, rfl, rfl⟩⟩
   ·rw [if_neg hxi] at hs ⊢
    obtain ⟨d, hd, hs⟩ := bs hs
    obtain ⟨g, hg, hs⟩ := bs hs
    obtain ⟨k, hk, hs⟩ := bs hs
    obtain rfl := Option.some.inj hs
    rw [bindS hd, bindS hg, bindS hk]
    exact ⟨_, rfl, .inl ⟨_, _, rfl, rfl, rfl⟩⟩
  ·rw [if_neg hi] at hs
   rw [if_neg (by omega)]
   obtain rfl := Option.some.inj hs
   exact ⟨_, rfl, .inr ⟨_, _, rfl, rfl, rfl⟩⟩) h
 exact q1

theorem rzeros {vs : List Int} {X : List (List Int)} (h : loop (dissect_coarsen_l4 (List.replicate vs.length []) vs) (List.replicate vs.length [], 0) = some X) : loop (sparseref18_Coarsen_l9 vs) (List.replicate vs.length [], 0) = some X := by
 have e : dissect_coarsen_l4 (List.replicate vs.length []) vs = sparseref18_Coarsen_l9 vs := by
  funext ⟨a, i⟩
  unfold dissect_coarsen_l4 sparseref18_Coarsen_l9
  rw [List.length_replicate]
 rw [← e]; exact h

theorem rtable {n : Nat} {W : Nat → Nat → Int} {vx to : List Int} (hv : vx.length = n) {X Y : List (List Int)} (h : loop (dissect_coarsen_l7 (cadj n W) to (ced n W)) (X, 0) = some Y) : loop (sparseref18_Coarsen_l12 vx (ced n W) to (cadj n W)) (X, 0) = some Y := by
 have hcl : (cadj n W).length = n := cadj_len
 obtain ⟨o', q1, rfl⟩ := loop_simA (step1 := dissect_coarsen_l7 (cadj n W) to (ced n W)) (step2 := sparseref18_Coarsen_l12 vx (ced n W) to (cadj n W)) (fun s t => t = s) (fun o o' => o' = o) (s := (X, 0)) (t := (X, 0)) rfl (by
  rintro ⟨a, i⟩ t r rfl hs
  unfold dissect_coarsen_l7 at hs
  unfold sparseref18_Coarsen_l12
  simp only at hs ⊢
  by_cases hi : i < ((cadj n W).length : Int)
  ·rw [if_pos hi] at hs
   rw [if_pos (by omega)]
   obtain ⟨l, hl, hs⟩ := bs hs
   obtain ⟨b, hb, hs⟩ := bs hs
   obtain rfl := Option.some.inj hs
   obtain ⟨i0, i1, _⟩ := getI_nn hl
   obtain ⟨j, rfl⟩ := Int.eq_ofNat_of_zero_le i0
   have hj : j < n := by omega
   have e1 : getI (cadj n W) (j : Int) = some ((nbs n (W j)).map Int.ofNat) := cadj_get hj
   have e2 : getI (ced n W) (j : Int) = some ((nbs n (W j)).map (W j)) := ced_get hj
   rw [e1] at hl
   obtain rfl := Option.some.inj hl
   have hll : ((nbs n (W j)).map Int.ofNat).length = ((nbs n (W j)).map (W j)).length := by simp
   obtain ⟨b', k1, rfl⟩ := loop_simA (step1 := dissect_coarsen_l49 ((nbs n (W j)).map Int.ofNat) to (j : Int) (ced n W)) (step2 := sparseref18_Coarsen_l53 (ced n W) (j : Int) to (cadj n W)) (fun s t => t = s) (fun o o' => o' = o) (s := (a, 0)) (t := (a, 0)) rfl (by
    rintro ⟨c, k⟩ t r rfl hs
    unfold dissect_coarsen_l49 at hs
    unfold sparseref18_Coarsen_l53
    simp only at hs ⊢
    rw [bindS e2]
    by_cases hk : k < (((nbs n (W j)).map Int.ofNat).length : Int)
    ·rw [if_pos hk] at hs
     rw [if_pos (by omega)]
     obtain ⟨u, hu, hs⟩ := bs hs
     obtain ⟨p, hp, hs⟩ := bs hs
     obtain ⟨q, hq, hs⟩ := bs hs
     obtain ⟨r1, hr1, hs⟩ := bs hs
     obtain ⟨r2, hr2, hs⟩ := bs hs
     rw [bindS e2] at hs
     obtain ⟨r3, hr3, hs⟩ := bs hs
     obtain ⟨r4, hr4, hs⟩ := bs hs
     obtain ⟨r5, hr5, hs⟩ := bs hs
     obtain rfl := Option.some.inj hs
     rw [bindS hp, bindS e1, bindS hu, bindS hr1, bindS hq, bindS hq, bindS hr2, bindS e2, bindS hr3, bindS hr4, bindS hr5]
     exact ⟨_, rfl, .inl ⟨_, _, rfl, rfl, rfl⟩⟩
    ·rw [if_neg hk] at hs
     rw [if_neg (by omega)]
     obtain rfl := Option.some.inj hs
     exact ⟨_, rfl, .inr ⟨_, _, rfl, rfl, rfl⟩⟩) hb
   rw [bindS k1]
   exact ⟨_, rfl, .inl ⟨_, _, rfl, rfl, rfl⟩⟩
  ·rw [if_neg hi] at hs
   rw [if_neg (by omega)]
   obtain rfl := Option.some.inj hs
   exact ⟨_, rfl, .inr ⟨_, _, rfl, rfl, rfl⟩⟩) h
 exact q1

theorem rrow {K : Nat} (hK : K ≤ 200) {vs : List Int} (hv : vs.length = K) {X : List (List Int)} {f : Nat → Nat → Int} (hX : Tv X K f) (hf : ∀ a b, a < K → b < K → 0 ≤ f a b) {a : Nat} (ha : a < K) :
  Ret (loop (sparseref18_Coarsen_l48 vs (a : Int) X) ([], [], 0)) (fun o => (o = .inl ((nbs K (cw f a)).map Int.ofNat, (nbs K (cw f a)).map (cw f a)) ∧ ∀ b, b < K → cw f a b ≤ 1099511627776) ∨ (o = .inr () ∧ ¬ ∀ b, b < K → cw f a b ≤ 1099511627776)) := by
 obtain ⟨r, r1, r2, r3⟩ := hX.2 a ha
 have e1 : getI X (a : Int) = some r := r1
 refine ret_loop K (fun k (t : List Int × List Int × Int) => t = ((nbs k (cw f a)).map Int.ofNat, (nbs k (cw f a)).map (cw f a), (k : Int)) ∧ ∀ b, b < k → cw f a b ≤ 1099511627776) ⟨rfl, fun b hb => by omega⟩ ?_
 rintro k _ hk ⟨rfl, hI⟩
 unfold sparseref18_Coarsen_l48 sparseref18_Coarsen_j51
 simp only
 by_cases hkn : k < K
 ·have hw : wa .i64 (k : Int) 1 = ((k + 1 : Nat) : Int) := wa1 (by omega)
  have e2 : getI r (k : Int) = some (f a k) := r3 k hkn
  have hfk := hf a k ha hkn
  have hnl := nbs_len (n := k) (f := cw f a)
  rw [if_pos (by omega)]
  by_cases hak : a = k
  ·have hz : cw f a k = 0 := by unfold cw; rw [if_pos hak]
   rw [if_pos (by omega), bindS rfl, if_pos rfl, hw, ret_some, vq_l, nbs_succ, if_neg (by omega)]
   refine ⟨hkn, rfl, fun b hb => ?_⟩
   by_cases hbk : b < k
   ·exact hI b hbk
   ·have : b = k := by omega
    subst this; omega
  ·have hz : cw f a k = f a k := by unfold cw; rw [if_neg hak]
   rw [if_neg (by omega), bindS e1, bindS e2, bindS rfl]
   by_cases h0 : f a k = 0
   ·rw [if_pos (by simpa using h0), hw, ret_some, vq_l, nbs_succ, if_neg (by omega)]
    refine ⟨hkn, rfl, fun b hb => ?_⟩
    by_cases hbk : b < k
    ·exact hI b hbk
    ·have : b = k := by omega
     subst this; omega
   ·rw [if_neg (by simpa using h0), bindS e1, bindS e2]
    by_cases hb : (1099511627776 : Int) < f a k
    ·rw [if_pos hb, ret_some, vq_r]
     exact .inr ⟨rfl, fun h => by have := h k hkn; omega⟩
    ·have a1 : app ((nbs k (cw f a)).map Int.ofNat) [(k : Int)] = some ((nbs (k + 1) (cw f a)).map Int.ofNat) := by
      unfold app BIG
      rw [if_pos (by simp; omega), nbs_succ, if_pos (by omega), List.map_append]; rfl
     have a2 : app ((nbs k (cw f a)).map (cw f a)) [f a k] = some ((nbs (k + 1) (cw f a)).map (cw f a)) := by
      unfold app BIG
      rw [if_pos (by simp; omega), nbs_succ, if_pos (by omega), List.map_append, ← hz]; rfl
     rw [if_neg hb, bindS a1, bindS e1, bindS e2, bindS a2, hw, ret_some, vq_l]
     refine ⟨hkn, rfl, fun b hb => ?_⟩
     by_cases hbk : b < k
     ·exact hI b hbk
     ·have : b = k := by omega
      subst this; omega
 ·have : k = K := by omega
  subst this
  rw [if_neg (by omega), ret_some, vq_r]
  exact .inl ⟨rfl, hI⟩

theorem rrows {K : Nat} (hK : K ≤ 200) {vs : List Int} (hv : vs.length = K) {X : List (List Int)} {f : Nat → Nat → Int} (hX : Tv X K f) (hf : ∀ a b, a < K → b < K → 0 ≤ f a b) :
  Ret (loop (sparseref18_Coarsen_l39 vs X) ([], [], 0)) (fun o => (o = .inl (cadj K (cw f), ced K (cw f)) ∧ OkE K (cw f) ∧ ∀ x, x ∈ vs → x ≤ 1099511627776) ∨ (o = .inr () ∧ ¬ (OkE K (cw f) ∧ ∀ x, x ∈ vs → x ≤ 1099511627776))) := by
 refine ret_loop K (fun k (t : List (List Int) × List (List Int) × Int) => t = ((List.range k).map (fun v => (nbs K (cw f v)).map Int.ofNat), (List.range k).map (fun v => (nbs K (cw f v)).map (cw f v)), (k : Int)) ∧ (∀ a b, a < k → b < K → cw f a b ≤ 1099511627776) ∧ ∀ x, x ∈ vs.take k → x ≤ 1099511627776) ⟨rfl, fun a b ha => by omega, by simp⟩ ?_
 rintro k _ hk ⟨rfl, hI, hJ⟩
 unfold sparseref18_Coarsen_l39
 simp only
 by_cases hkn : k < K
 ·have hw : wa .i64 (k : Int) 1 = ((k + 1 : Nat) : Int) := wa1 (by omega)
  obtain ⟨y, hy⟩ : ∃ y, vs[k]? = some y := ⟨vs[k]'(by omega), by simp [show k < vs.length by omega]⟩
  have e1 : getI vs (k : Int) = some y := hy
  rw [if_pos (by omega), bindS e1]
  by_cases hyb : (1099511627776 : Int) < y
  ·rw [if_pos hyb, ret_some, vq_r]
   exact .inr ⟨rfl, fun h => by have := h.2 y (mem_get hy); omega⟩
  ·rw [if_neg hyb]
   obtain ⟨o, o1, o2⟩ := rrow hK hv hX hf hkn
   rw [bindS o1]
   rcases o2 with ⟨rfl, h⟩ | ⟨rfl, h⟩
   ·simp only
    have a1 : app ((List.range k).map (fun v => (nbs K (cw f v)).map Int.ofNat)) [(nbs K (cw f k)).map Int.ofNat] = some ((List.range (k + 1)).map (fun v => (nbs K (cw f v)).map Int.ofNat)) := by
     unfold app BIG
     rw [if_pos (by simp; omega), List.range_succ, List.map_append]; rfl
    have a2 : app ((List.range k).map (fun v => (nbs K (cw f v)).map (cw f v))) [(nbs K (cw f k)).map (cw f k)] = some ((List.range (k + 1)).map (fun v => (nbs K (cw f v)).map (cw f v))) := by
     unfold app BIG
     rw [if_pos (by simp; omega), List.range_succ, List.map_append]; rfl
    rw [bindS a1, bindS a2, hw, ret_some, vq_l]
    refine ⟨hkn, rfl, fun a b ha hb => ?_, fun x hx => ?_⟩
    ·by_cases hak : a < k
     ·exact hI a b hak hb
     ·have : a = k := by omega
      subst this; exact h b hb
    ·rw [tks hy, List.mem_append, List.mem_singleton] at hx
     rcases hx with hx | rfl
     ·exact hJ x hx
     ·omega
   ·simp only
    rw [ret_some, vq_r]
    exact .inr ⟨rfl, fun h2 => h fun b hb => h2.1 k b hkn hb⟩
 ·have : k = K := by omega
  subst this
  rw [if_neg (by omega), ret_some, vq_r]
  rw [take_all (by omega)] at hJ
  exact .inl ⟨rfl, hI, hJ⟩

open Classical in
theorem coarsen2_ok {n : Nat} (hn : n ≤ 200) {W : Nat → Nat → Int} {B : Int} (hT : Tw n W B) (hB : 0 ≤ B ∧ B ≤ 1099511627776) {vx m : List Int} (hv : vx.length = n) (hvx : ∀ x, x ∈ vx → Wg x) (hM : Ml n m) (hr : sparseref18_CheckWeighted (cadj n W) vx (ced n W) = some 0) :
  ∃ vs to, Co n W vx vs to B ∧ (∀ x, x ∈ vs → 1 ≤ x) ∧ dissect_coarsen (cadj n W) vx (ced n W) m = some (if OkE vs.length (cw (tabS n W to n)) ∧ (∀ x, x ∈ vs → Wg x) then (cadj vs.length (cw (tabS n W to n)), vs, ced vs.length (cw (tabS n W to n)), to, true) else ([], [], [], [], false))
   ∧ sparseref18_Coarsen (cadj n W) vx (ced n W) m = some (if OkE vs.length (cw (tabS n W to n)) ∧ (∀ x, x ∈ vs → Wg x) then (cadj vs.length (cw (tabS n W to n)), vs, ced vs.length (cw (tabS n W to n)), to, 0) else ([], [], [], [], 3)) := by
 have hml := hM.len
 obtain ⟨⟨vs, to⟩, g1, hg⟩ := merge_ok hM hn hv hvx
 simp only at hg
 have hvl := hg.vl
 obtain ⟨X, x1, x2⟩ := zeros_ok (K := vs.length) (by omega) (vs := vs) rfl
 obtain ⟨Y, y1, y2, y3⟩ := table_ok hn hT hB (K := vs.length) hg.tr x2
 obtain ⟨o, o1, o2⟩ := build_rows (K := vs.length) (by omega) y2
 obtain ⟨p, p1, p2⟩ := rrows (K := vs.length) (by omega) rfl y2 (fun a b _ _ => (y3 a b).1)
 have hvw : ∀ v, v < n → 1 ≤ vw vx v := by
  intro v hvn
  obtain ⟨x, hx⟩ : ∃ x, vx[v]? = some x := ⟨vx[v]'(by omega), by simp [show v < vx.length by omega]⟩
  rw [vw_get hx]
  exact (hvx x (mem_get hx)).1
 have hpos : ∀ x, x ∈ vs → 1 ≤ x := by
  intro x hx
  obtain ⟨a, ha, rfl⟩ := List.getElem_of_mem hx
  have h1 := hg.ws a ha
  rw [List.getElem?_eq_getElem ha] at h1
  rw [Option.some.inj h1]
  obtain ⟨v, v1, v2⟩ := hg.sj a ha
  have nn : ∀ i, i < n → 0 ≤ (if tt to i = a then vw vx i else 0) := by
   intro i hi
   have := hvw i hi
   split <;> omega
  have p1 := sm_pos nn v1
  simp only [if_pos v2] at p1
  have := hvw v v1
  omega
 have hwg : (∀ x, x ∈ vs → Wg x) ↔ ∀ x, x ∈ vs → x ≤ 1099511627776 := ⟨fun h x hx => (h x hx).2, fun h x hx => ⟨hpos x hx, h x hx⟩⟩
 refine ⟨vs, to, ⟨hg, y3⟩, hpos, ?_, ?_⟩
 ·unfold dissect_coarsen
  rw [hml, bindS (mkL_nat 0 n (by omega)), bindS g1]
  simp only
  rw [bindS (mkL_nat ([] : List Int) vs.length (by omega)), bindS x1, bindS y1, bindS (mkL_nat ([] : List Int) vs.length (by omega)), bindS (mkL_nat ([] : List Int) vs.length (by omega)), bindS o1]
  obtain ⟨b, b1, b2⟩ := weights_ok (l := vs) (by omega)
  rcases o2 with ⟨rfl, h⟩ | ⟨rfl, h⟩
  ·simp only
   rw [bindS b1]
   cases b with
   | true => rw [if_pos rfl, if_pos ⟨h, b2.1 rfl⟩]
   | false =>
    rw [if_neg (by simp), if_neg]
    intro hh
    have := b2.2 hh.2
    cases this
  ·simp only
   rw [if_neg (fun hh => h hh.1)]
 ·unfold sparseref18_Coarsen
  rw [bindS hr, if_pos rfl, if_pos (by omega), bindS (rmates_true hM hn hv)]
  simp only
  rw [hv, bindS (mkL_nat 0 n (by omega)), bindS (rmerge (by omega) g1)]
  simp only
  rw [bindS (mkL_nat ([] : List Int) vs.length (by omega)), bindS (rzeros x1), bindS (rtable hv y1), bindS p1]
  rcases p2 with ⟨rfl, h⟩ | ⟨rfl, h⟩
  ·simp only
   rw [if_pos ⟨h.1, hwg.2 h.2⟩]
  ·simp only
   rw [if_neg (fun hh => h ⟨hh.1, hwg.1 hh.2⟩)]
end Pd
