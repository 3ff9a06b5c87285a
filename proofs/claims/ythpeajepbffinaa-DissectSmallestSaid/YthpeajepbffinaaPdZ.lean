/- The law of the peripheral vertices over the models. -/
import Derived.Test.YthpeajepbffinaaPsM
import Derived.Test.YthpeajepbffinaaM4
import Derived.Test.YthpeajepbffinaaPlL
import Derived.Test.YthpeajepbffinaaVcA
import Derived.KernelRfl
set_option linter.unusedSimpArgs false
set_option linter.unusedVariables false
namespace Pl
open Sx Go M Vc

theorem levels_cls {adj : List (List Int)} (hG : Gr adj) (hn : adj.length ≤ 30) {v : Nat} (hv : v < adj.length) :
  ∃ out lev seen c, graph_levels adj (v : Int) = some out ∧ BF adj v lev seen out [] ∧ CC adj v c ∧ ∀ x, x ∈ out.flatten ↔ x ∈ c := by
 obtain ⟨out, lev, seen, h1, h2⟩ := levels_ok hG hn hv
 obtain ⟨o, c, k1, k2, k3, k4⟩ := comp_ok hG hn hv
 rw [h1] at k1
 obtain rfl := Option.some.inj k1
 have hfl : out.flatten.length ≤ adj.length := nodup_len _ _ h2.nodup fun x hx => by have := (h2.flat x).1 hx; exact ⟨this.1, this.2.1⟩
 obtain ⟨m, m1, m2, m3⟩ := sort_ok (l := out.flatten) (by omega)
 rw [m1] at k3
 obtain rfl := Option.some.inj k3
 exact ⟨out, lev, seen, m, h1, h2, k4, fun x => m2.mem_iff.symm⟩

def farR (adj : List (List Int)) (out : List (List Int)) : Option Int :=
 (getI out (ws .i64 (out.length : Int) 1)).bind fun x91 =>
 (getI x91 0).bind fun x93 =>
 (loop (graph_Peripheral_l13 x91 adj) (x93, 0)).bind fun x114 => some x114

theorem far_ok {adj : List (List Int)} {out : List (List Int)} (hlen : 0 < out.length) (hl2 : out.length ≤ 1000) (hne : ∀ l, l ∈ out → l ≠ []) (hr : ∀ l, l ∈ out → ∀ x, x ∈ l → 0 ≤ x ∧ x < adj.length) (hsz : ∀ l, l ∈ out → l.length ≤ 1000) : Ret (farR adj out) (fun w => w ∈ out.flatten ∧ 0 ≤ w ∧ w < adj.length) := by
 unfold farR
 have e : ws .i64 (out.length : Int) 1 = ((out.length - 1 : Nat) : Int) := by rw [ws_i (by omega) (by omega)]; omega
 have hk : out.length - 1 < out.length := by omega
 rw [e, bindS (getI_lt hk)]
 have hm := List.getElem_mem hk
 generalize out[out.length - 1] = l at hm
 have hlp := List.length_pos_iff.2 (hne l hm)
 have hll := hsz l hm
 have hg0 : getI l 0 = some l[0] := getI_lt hlp
 rw [bindS hg0]
 simp only [ret_bind, ret_some]
 refine ret_call (P := fun w => w ∈ l) ?_ (fun w hw => ⟨List.mem_flatten.2 ⟨l, hm, hw⟩, hr l hm w hw⟩)
 refine ret_loop l.length (fun k (s : Int × Int) => s.2 = k ∧ s.1 ∈ l) ⟨rfl, List.getElem_mem _⟩ ?_
 rintro k ⟨s, i⟩ hk2 ⟨rfl, hs⟩
 simp only at hs
 have hrs := hr l hm s hs
 unfold graph_Peripheral_l13 graph_Peripheral_j14
 by_cases hkl : k < l.length
 ·obtain ⟨x, hx⟩ : ∃ x, l[k]? = some x := ⟨l[k], by simp [hkl]⟩
  have hxr := hr l hm x (mem_get hx)
  have e1 : getI l (k : Int) = some x := hx
  have e5 : (k : Int) < (l.length : Int) := by omega
  have e6 : getI adj x = some (adj[x.toNat]'(by omega)) := getI_of hxr.1 (by simp [show x.toNat < adj.length by omega])
  have e7 : getI adj s = some (adj[s.toNat]'(by omega)) := getI_of hrs.1 (by simp [show s.toNat < adj.length by omega])
  have hw : wa .i64 (k : Int) 1 = ((k + 1 : Nat) : Int) := wa1 (by omega)
  simp only [ret_bind, ret_if, ret_get, ret_set, ret_app, ret_mkL, ret_sli, ret_wr, ret_wq, ret_some, vq_l, vq_r, Int.toNat_natCast, if_true, if_false, obs, decide_false, decide_true, Bool.false_eq_true, Bool.not_true, Bool.not_false, not_true_eq_false, not_false_eq_true, true_implies, false_implies, reduceCtorEq, e1, e5, e6, e7, hw]
  exact ⟨fun _ => ⟨hkl, trivial, mem_get hx⟩, fun _ => ⟨hkl, trivial, hs⟩⟩
 ·have e5 : ¬ (k : Int) < (l.length : Int) := by omega
  simp only [ret_bind, ret_if, ret_get, ret_set, ret_app, ret_mkL, ret_sli, ret_wr, ret_wq, ret_some, vq_l, vq_r, Int.toNat_natCast, if_true, if_false, obs, decide_false, decide_true, Bool.false_eq_true, Bool.not_true, Bool.not_false, not_true_eq_false, not_false_eq_true, true_implies, false_implies, reduceCtorEq, e5]
  exact hs

theorem per_step {adj : List (List Int)} {v : Int} {out r : List (List Int)} {w : Int} (h1 : farR adj out = some w) (h2 : graph_levels adj w = some r) :
  graph_Peripheral_l10 adj (v, out) = if (r.length : Int) ≤ (out.length : Int) then some (.inr v) else some (.inl (w, r)) := by
 unfold farR at h1
 unfold graph_Peripheral_l10
 simp only
 obtain ⟨l, g1, h1⟩ := bs h1
 obtain ⟨x, g2, h1⟩ := bs h1
 obtain ⟨z, g3, h1⟩ := bs h1
 obtain rfl := Option.some.inj h1
 rw [bindS g1, bindS g2, bindS g3, bindS h2]

theorem bf_pre {adj : List (List Int)} {root : Nat} {lev : Nat → Nat} {seen : List Bool} {out : List (List Int)} (h : BF adj root lev seen out []) (hr : root < adj.length) (hn : adj.length ≤ 30) :
  0 < out.length ∧ out.length ≤ adj.length ∧ (∀ l, l ∈ out → l ≠ []) ∧ (∀ l, l ∈ out → ∀ x, x ∈ l → 0 ≤ x ∧ x < adj.length) ∧ (∀ l, l ∈ out → l.length ≤ 1000) := by
 have hk : ∀ l, l ∈ out → l.Pairwise (· < ·) ∧ ∀ x, x ∈ l → 0 ≤ x ∧ x < adj.length := by
  intro l hl
  obtain ⟨k, hk⟩ := List.mem_iff_getElem?.1 hl
  have := h.lst k l (by rw [List.getElem?_append_left (List.getElem?_eq_some_iff.1 hk).1]; exact hk)
  exact ⟨this.1, this.2.1⟩
 refine ⟨?_, h.count, h.ne, fun l hl => (hk l hl).2, fun l hl => ?_⟩
 ·have h1 := (h.rt root hr).2 rfl
  have h2 := h.lev_le root hr
  omega
 ·have := asc_len (hk l hl).1 (hk l hl).2
  omega

theorem peripheral_ok {adj : List (List Int)} (hG : Gr adj) (hn : adj.length ≤ 30) {v : Nat} (hv : v < adj.length) {a : List (List Int)} (ha : graph_levels adj (v : Int) = some a) :
  Ret (graph_Peripheral adj (v : Int)) (fun p => ∃ (q : Nat) (b r : List (List Int)) (w : Int), p = (q : Int) ∧ q < adj.length ∧ p ∈ a.flatten ∧ graph_levels adj p = some b ∧ a.length ≤ b.length ∧ farR adj b = some w ∧ graph_levels adj w = some r ∧ r.length ≤ b.length) := by
 obtain ⟨a', lev, seen, c, h1, h2, h3, h4⟩ := levels_cls hG hn hv
 rw [ha] at h1
 obtain rfl := Option.some.inj h1
 have hchk := graphCheck_ok hG (show adj.length ≤ 200 by omega)
 unfold graph_Peripheral graph_vertex
 rw [bindS hchk]
 have e1 : ¬ (v : Int) < 0 := by omega
 have e2 : (v : Int) < (adj.length : Int) := by omega
 simp only [if_pos, Option.bind_some]
 have e3 : (0 : Int) ≤ (v : Int) := by omega
 simp only [e2, e3, decide_true, Bool.and_self, Bool.not_true, Bool.false_eq_true, if_false, ha, Option.bind_some, ret_bind, ret_some]
 refine ret_loop adj.length (fun k (s : Int × List (List Int)) => ∃ q : Nat, s.1 = (q : Int) ∧ q < adj.length ∧ s.1 ∈ a.flatten ∧ graph_levels adj s.1 = some s.2 ∧ a.length ≤ s.2.length ∧ k ≤ s.2.length) ⟨v, rfl, hv, (h4 _).2 h3.mem, ha, by simp, by simp⟩ ?_
 rintro k ⟨p, now⟩ hk ⟨q, rfl, hq, hpa, hnow, hla, hkn⟩
 simp only at hpa hnow hla hkn
 obtain ⟨now', lev', seen', c', g1, g2, g3, g4⟩ := levels_cls hG hn hq
 rw [hnow] at g1
 obtain rfl := Option.some.inj g1
 obtain ⟨p1, p2, p3, p4, p5⟩ := bf_pre g2 hq hn
 obtain ⟨w, w1, w2, w3, w4⟩ := far_ok p1 (by omega) p3 p4 p5
 obtain ⟨u, rfl⟩ := Int.eq_ofNat_of_zero_le w3
 have hu : u < adj.length := by omega
 obtain ⟨r, lev2, seen2, c2, k1, k2, k3, k4⟩ := levels_cls hG hn hu
 obtain ⟨_, q2, _⟩ := bf_pre k2 hu hn
 have hua : (u : Int) ∈ a.flatten := by
  rw [h4]
  exact g3.min (fun x => (x : Int) ∈ c) ((h4 _).1 hpa) (fun v w _ hs hnb => h3.clo v w hs hnb) u ((g4 _).1 w2)
 rw [per_step w1 k1]
 simp only [ret_if, ret_some, vq_l, vq_r]
 exact ⟨fun h => ⟨q, now, r, u, rfl, hq, hpa, hnow, hla, w1, k1, by omega⟩, fun h => ⟨by omega, u, rfl, hu, hua, k1, by omega, by omega⟩⟩

end Pl
/- Graphs as tables: making, joining, listing; what some vertices induce. -/
set_option linter.unusedSimpArgs false
set_option linter.unusedVariables false
namespace Pl
open Sx Go M Vc

/-- a table of a relation -/
def Tr (T : List (List Bool)) (n : Nat) (R : Nat → Nat → Prop) : Prop := T.length = n ∧ ∀ i, i < n → ∃ r, T[i]? = some r ∧ r.length = n ∧ ∀ j, j < n → ∃ b : Bool, r[j]? = some b ∧ (b = true ↔ R i j)
theorem Tr.congr {T : List (List Bool)} {n : Nat} {R R' : Nat → Nat → Prop} (h : ∀ i j, i < n → j < n → (R i j ↔ R' i j)) (hT : Tr T n R) : Tr T n R' := by
 refine ⟨hT.1, fun i hi => ?_⟩
 obtain ⟨r, h1, h2, h3⟩ := hT.2 i hi
 exact ⟨r, h1, h2, fun j hj => by obtain ⟨b, h4, h5⟩ := h3 j hj; exact ⟨b, h4, by rw [h5, h i j hi hj]⟩⟩
theorem Tr.blank (n : Nat) : Tr (List.replicate n (List.replicate n false)) n (fun _ _ => False) :=
 ⟨by simp, fun i hi => ⟨List.replicate n false, by simp [hi], by simp, fun j hj => ⟨false, by simp [hj], by simp⟩⟩⟩
theorem Tr.row {T : List (List Bool)} {n : Nat} {R : Nat → Nat → Prop} (hT : Tr T n R) {i : Nat} (hi : i < n) : ∃ r, getI T (i : Int) = some r ∧ T[i]? = some r ∧ r.length = n ∧ ∀ j : Nat, j < n → ∃ b : Bool, getI r (j : Int) = some b ∧ (b = true ↔ R i j) := by
 obtain ⟨r, h1, h2, h3⟩ := hT.2 i hi
 exact ⟨r, h1, h1, h2, fun j hj => h3 j hj⟩
theorem Tr.put {T : List (List Bool)} {n : Nat} {R : Nat → Nat → Prop} (hT : Tr T n R) {i j : Nat} (hi : i < n) {r : List Bool} (hr : T[i]? = some r) {z : Bool} {p : Prop} (hz : z = true ↔ p) : Tr (T.set i (r.set j z)) n (fun a c => (a = i ∧ c = j ∧ p) ∨ (¬ (a = i ∧ c = j) ∧ R a c)) := by
 refine ⟨by simp [hT.1], fun a ha => ?_⟩
 obtain ⟨r', h1, h2, h3⟩ := hT.2 a ha
 by_cases hai : i = a
 ·subst hai
  rw [hr] at h1
  obtain rfl := Option.some.inj h1
  refine ⟨r.set j z, by rw [List.getElem?_set, if_pos rfl, if_pos (by rw [hT.1]; exact ha)], by simp [h2], fun c hc => ?_⟩
  obtain ⟨b, h4, h5⟩ := h3 c hc
  rw [List.getElem?_set]
  by_cases hcj : j = c
  ·subst hcj
   exact ⟨z, by rw [if_pos rfl, if_pos (by omega)], by rw [hz]; simp⟩
  ·exact ⟨b, by rw [if_neg hcj, h4], by rw [h5]; simp [show ¬ c = j from fun h => hcj h.symm]⟩
 ·refine ⟨r', by rw [List.getElem?_set, if_neg hai, h1], h2, fun c hc => ?_⟩
  obtain ⟨b, h4, h5⟩ := h3 c hc
  exact ⟨b, h4, by rw [h5]; simp [show ¬ a = i from fun h => hai h.symm]⟩
theorem Tr.on {T : List (List Bool)} {n : Nat} {R : Nat → Nat → Prop} (hT : Tr T n R) {i j : Nat} (hi : i < n) {r : List Bool} (hr : T[i]? = some r) : Tr (T.set i (r.set j true)) n (fun a c => (a = i ∧ c = j) ∨ R a c) := by
 refine Tr.congr (fun a c _ _ => ?_) (hT.put (j := j) hi hr (z := true) (p := True) (by simp))
 by_cases h : a = i ∧ c = j
 ·simp [h]
 ·simp [h]
open Classical in
theorem Tr.tb {T : List (List Bool)} {n : Nat} {R : Nat → Nat → Prop} (hT : Tr T n R) : Tb T n (fun i j => decide (R i j)) := by
 refine ⟨hT.1, fun i hi => ?_⟩
 obtain ⟨r, h1, h2, h3⟩ := hT.2 i hi
 refine ⟨r, h1, h2, fun j hj => ?_⟩
 obtain ⟨b, h4, h5⟩ := h3 j hj
 rw [h4]
 congr 1
 cases b with
 | true => symm; rw [decide_eq_true_iff]; exact h5.1 rfl
 | false => symm; rw [decide_eq_false_iff_not]; intro h; have := h5.2 h; cases this

/-- l[i] and l[j] are neighbours -/
def IJ (adj : List (List Int)) (l : List Int) (i j : Nat) : Prop := ∃ (x y : Int), l[i]? = some x ∧ l[j]? = some y ∧ nbp adj x.toNat y.toNat
theorem IJ.sym {adj : List (List Int)} (hG : Gr adj) {l : List Int} {i j : Nat} (h : IJ adj l i j) : IJ adj l j i := by
 obtain ⟨x, y, h1, h2, h3⟩ := h
 exact ⟨y, x, h2, h1, nbp_sym hG h3⟩
theorem IJ.ne {adj : List (List Int)} (hG : Gr adj) {l : List Int} {i : Nat} (h : IJ adj l i i) : False := by
 obtain ⟨x, y, h1, h2, l', h3, h4⟩ := h
 rw [h1] at h2
 obtain rfl := Option.some.inj h2
 have := (hG.rng _ _ _ h3 h4).2.2
 omega

end Pl
/- Orders; that nothing stands twice. -/
set_option linter.unusedSimpArgs false
set_option linter.unusedVariables false
namespace Pl
open Sx Go M Vc

/-- a permutation of 0 to n - 1 -/
structure Pm (l : List Int) (n : Nat) : Prop where
 len : l.length = n
 nd : l.Nodup
 rng : ∀ x, x ∈ l → 0 ≤ x ∧ x < (n : Int)

end Pl
/- Orders made from numbers; relabelling by the program and by the document. -/
set_option linter.unusedSimpArgs false
set_option linter.unusedVariables false
namespace Pl
open Sx Go M Vc


end Pl
/- The document's peripheral vertices and components; the law of the graphs made from numbers. -/
set_option linter.unusedSimpArgs false
set_option linter.unusedVariables false
namespace Pl
open Sx Go M Vc

def dg (adj : List (List Int)) (u : Int) : Nat := (adj[u.toNat]?.getD []).length
theorem drop_at {l : List Int} {k : Nat} (h : k < l.length) : l.drop k = l[k] :: l.drop (k + 1) := by rw [List.drop_eq_getElem_cons h]

end Pl
/- Both checks of a graph, valid or not. -/
set_option linter.unusedSimpArgs false
set_option linter.unusedVariables false
namespace Pu
open Pl Sx Go M Vc

def Asn (l : List Int) (n : Nat) : Prop := l.Pairwise (· < ·) ∧ ∀ x, x ∈ l → 0 ≤ x ∧ x < (n : Int)
theorem Asn.take {l : List Int} {n : Nat} (h : Asn l n) (k : Nat) : Asn (l.take k) n :=
 ⟨h.1.sublist (List.take_sublist _ _), fun x hx => h.2 x (List.mem_of_mem_take hx)⟩

/-- the first half of the check -/
def G1 (adj : List (List Int)) (k : Nat) : Prop := ∀ (v : Nat) l, v < k → adj[v]? = some l → Asn l adj.length ∧ (v : Int) ∉ l
def S1 (adj : List (List Int)) (v : Nat) (l : List Int) : Prop := ∀ x, x ∈ l → ∃ m, adj[x.toNat]? = some m ∧ (v : Int) ∈ m
def G2 (adj : List (List Int)) (k : Nat) : Prop := ∀ (v : Nat) l, v < k → adj[v]? = some l → S1 adj v l
/-- one row, as the document checks it -/
def R1 (adj : List (List Int)) (v : Nat) (l : List Int) : Prop := ∀ x, x ∈ l → (0 ≤ x ∧ x < (adj.length : Int)) ∧ x ≠ (v : Int) ∧ ∃ m, adj[x.toNat]? = some m ∧ (v : Int) ∈ m
def G3 (adj : List (List Int)) (k : Nat) : Prop := ∀ (v : Nat) l, v < k → adj[v]? = some l → l.Pairwise (· < ·) ∧ R1 adj v l
end Pu
/- Weighted graphs: what makes one valid; the program's check; weighted graphs made from numbers. -/
set_option linter.unusedSimpArgs false
set_option linter.unusedVariables false
namespace Pd
open Pl Sx Go M Vc

/-- a permitted weight -/
def Wg (x : Int) : Prop := 1 ≤ x ∧ x ≤ 1099511627776
structure Wt (adj : List (List Int)) (vx : List Int) (ed : List (List Int)) : Prop where
 gr : Gr adj
 vl : vx.length = adj.length
 el : ed.length = adj.length
 vr : ∀ x, x ∈ vx → Wg x
 rl : ∀ (v : Nat) l e, adj[v]? = some l → ed[v]? = some e → e.length = l.length
 er : ∀ e, e ∈ ed → ∀ x, x ∈ e → Wg x
 sy : ∀ (v k : Nat) l e u x, adj[v]? = some l → ed[v]? = some e → l[k]? = some u → e[k]? = some x → ∃ l' e', ∃ k' : Nat, adj[u.toNat]? = some l' ∧ ed[u.toNat]? = some e' ∧ l'[k']? = some (v : Int) ∧ e'[k']? = some x

theorem search_at {l : List Int} (h : l.Pairwise (· < ·)) (hl : l.length < 1000000) {k : Nat} {x : Int} (hk : l[k]? = some x) : slices_BinarySearch_int l x = some ((k : Int), true) := by
 unfold slices_BinarySearch_int
 obtain ⟨hkl, hkx⟩ := List.getElem?_eq_some_iff.1 hk
 obtain ⟨o, h1, h2⟩ := whileG (step := slices_BinarySearch_int_l3 l x) (s := (0, (l.length : Int)))
   (fun s => ∃ a b : Nat, s = ((a : Int), (b : Int)) ∧ a ≤ b ∧ b ≤ l.length ∧ (∀ i, ∀ hi : i < l.length, i < a → l[i] < x) ∧ (∀ i, ∀ hi : i < l.length, b ≤ i → x ≤ l[i]))
   (fun o => ∃ a : Nat, o = (a : Int) ∧ a ≤ l.length ∧ (∀ i, ∀ hi : i < l.length, i < a → l[i] < x) ∧ (∀ i, ∀ hi : i < l.length, a ≤ i → x ≤ l[i])) (fun s => (s.2 - s.1).toNat)
   ⟨0, l.length, rfl, by omega, by omega, fun i _ h => by omega, fun i _ h => by omega⟩ (by simp only; omega) (by
   rintro s ⟨a, b, rfl, hab, hb, ha1, hb1⟩
   unfold slices_BinarySearch_int_l3
   simp only
   by_cases hc : a < b
   ·have hm : (a + b) / 2 < l.length := by omega
    rw [if_pos (by omega), mid_ok a b hc (by omega), bindS (getI_lt hm), bindS (less_ok _ _)]
    unfold slices_BinarySearch_int_j11
    by_cases hlt : l[(a + b) / 2] < x
    ·rw [if_pos (by simpa using hlt), wa1 (by omega)]
     refine .inl ⟨_, rfl, ⟨(a + b) / 2 + 1, b, rfl, by omega, hb, fun i hi hia => ?_, hb1⟩, by simp only; omega⟩
     by_cases he : i = (a + b) / 2
     ·subst he; exact hlt
     ·have := asc_get h hm (i := i) (by omega)
      omega
    ·rw [if_neg (by simpa using hlt)]
     refine .inl ⟨_, rfl, ⟨a, (a + b) / 2, rfl, by omega, by omega, ha1, fun i hi hia => ?_⟩, by simp only; omega⟩
     by_cases he : i = (a + b) / 2
     ·subst he; omega
     ·have := asc_get h hi (i := (a + b) / 2) (by omega)
      omega
   ·rw [if_neg (by omega)]
    exact .inr ⟨_, rfl, a, rfl, by omega, ha1, fun i hi hia => hb1 i hi (by omega)⟩)
 rw [bindS h1]
 obtain ⟨a, rfl, hal, ha1, ha2⟩ := h2
 have hak : a = k := by
  rcases Nat.lt_trichotomy a k with h3 | h3 | h3
  ·have h4 := ha2 a (by omega) (Nat.le_refl _)
   have h5 := asc_get h hkl h3
   omega
  ·exact h3
  ·have := ha1 k hkl h3; omega
 subst hak
 rw [if_pos (by omega), bindS (getI_lt hkl), if_pos hkx]
 simp

theorem weights_ok {l : List Int} (hl : l.length ≤ 100000) : Ret (dissect_weights l) (fun b => b = true ↔ ∀ x, x ∈ l → Wg x) := by
 unfold dissect_weights slices_ContainsFunc_int slices_IndexFunc_int
 rw [ret_bind, ret_bind, ret_bind]
 refine ret_call (P := fun o => (o = .inl () ∧ ∀ x, x ∈ l → Wg x) ∨ (∃ k : Int, 0 ≤ k ∧ o = .inr k ∧ ¬ ∀ x, x ∈ l → Wg x)) ?_ ?_
 ·refine ret_loop l.length (fun k (t : Int) => t = (k : Int) ∧ ∀ x, x ∈ l.take k → Wg x) ⟨rfl, by simp⟩ ?_
  rintro k _ hk ⟨rfl, hI⟩
  unfold slices_IndexFunc_int_l1 dissect_weights_1
  by_cases hkl : k < l.length
  ·obtain ⟨x, hx⟩ : ∃ x, l[k]? = some x := ⟨l[k], by simp [hkl]⟩
   have e1 : getI l (k : Int) = some x := hx
   have e5 : (k : Int) < (l.length : Int) := by omega
   have hw : wa .i64 (k : Int) 1 = ((k + 1 : Nat) : Int) := wa1 (by omega)
   by_cases hg : Wg x
   ·have e6 : (decide (x < 1) || decide ((1099511627776 : Int) < x)) = false := by unfold Wg at hg; simp; omega
    simp only [ret_bind, ret_if, ret_get, ret_set, ret_app, ret_mkL, ret_sli, ret_wr, ret_wq, ret_some, vq_l, vq_r, Int.toNat_natCast, if_true, if_false, obs, decide_false, decide_true, Bool.false_eq_true, Bool.not_true, Bool.not_false, not_true_eq_false, not_false_eq_true, true_implies, false_implies, reduceCtorEq, true_and, and_true, false_and, or_false, false_or, implies_true, e1, e5, e6, hw]
    exact ⟨hkl, fun y hy => by rw [mts hx] at hy; rcases hy with hy | rfl; exact hI y hy; exact hg⟩
   ·have e6 : (decide (x < 1) || decide ((1099511627776 : Int) < x)) = true := by unfold Wg at hg; simp; omega
    simp only [ret_bind, ret_if, ret_get, ret_set, ret_app, ret_mkL, ret_sli, ret_wr, ret_wq, ret_some, vq_l, vq_r, Int.toNat_natCast, if_true, if_false, obs, decide_false, decide_true, Bool.false_eq_true, Bool.not_true, Bool.not_false, not_true_eq_false, not_false_eq_true, true_implies, false_implies, reduceCtorEq, true_and, and_true, false_and, or_false, false_or, implies_true, e1, e5, e6]
    exact ⟨(k : Int), by omega, rfl, fun h => hg (h x (mem_get hx))⟩
  ·have e5 : ¬ (k : Int) < (l.length : Int) := by omega
   simp only [ret_bind, ret_if, ret_get, ret_set, ret_app, ret_mkL, ret_sli, ret_wr, ret_wq, ret_some, vq_l, vq_r, Int.toNat_natCast, if_true, if_false, obs, decide_false, decide_true, Bool.false_eq_true, Bool.not_true, Bool.not_false, not_true_eq_false, not_false_eq_true, true_implies, false_implies, reduceCtorEq, true_and, and_true, false_and, or_false, false_or, implies_true, e5]
   rw [take_all (by omega)] at hI
   exact .inl hI
 ·rintro o (⟨rfl, h⟩ | ⟨k, hk, rfl, h⟩)
  ·simp only [ret_some]
   have : decide ((0 : Int) ≤ -1) = false := by decide
   rw [this]; simp; exact h
  ·simp only [ret_some, decide_eq_true hk]
   simp only [Bool.not_true, Bool.false_eq_true, false_iff]
   exact h
theorem weights_true {l : List Int} (hl : l.length ≤ 100000) (h : ∀ x, x ∈ l → Wg x) : dissect_weights l = some true := by
 obtain ⟨b, h1, h2⟩ := weights_ok hl
 rw [h1, h2.2 h]

theorem Wt.row {adj : List (List Int)} {vx : List Int} {ed : List (List Int)} (h : Wt adj vx ed) {v : Nat} (hv : v < adj.length) : ∃ l e, adj[v]? = some l ∧ ed[v]? = some e ∧ e.length = l.length := by
 have := h.el
 obtain ⟨l, hl⟩ : ∃ l, adj[v]? = some l := ⟨adj[v], by simp [hv]⟩
 obtain ⟨e, he⟩ : ∃ e, ed[v]? = some e := ⟨ed[v]'(by omega), by simp [show v < ed.length by omega]⟩
 exact ⟨l, e, hl, he, h.rl v l e hl he⟩

theorem checkW_ok {adj : List (List Int)} {vx : List Int} {ed : List (List Int)} (h : Wt adj vx ed) (hn : adj.length ≤ 200) : dissect_CheckWeighted adj vx ed = some 0 := by
 have hvl := h.vl
 have hel := h.el
 unfold dissect_CheckWeighted
 rw [bindS (graphCheck_ok h.gr hn), if_pos rfl, if_neg (by simp; omega), bindS (weights_true (by omega) h.vr)]
 have l5 : loop (dissect_CheckWeighted_l5 adj ed) 0 = some (.inl ()) := by
  refine Ret.eq ?_
  refine ret_loop adj.length (fun k (t : Int) => t = (k : Int)) rfl ?_
  rintro k _ hk rfl
  unfold dissect_CheckWeighted_l5
  by_cases hkl : k < adj.length
  ·obtain ⟨l, e, e1, e2, e3⟩ := h.row hkl
   have e1' : getI adj (k : Int) = some l := e1
   have e2' : getI ed (k : Int) = some e := e2
   have hll := h.gr.len e1
   have e4 := weights_true (l := e) (by omega) (h.er e (mem_get e2))
   have e5 : (k : Int) < (adj.length : Int) := by omega
   have e6 : (e.length : Int) = (l.length : Int) := by omega
   have hw : wa .i64 (k : Int) 1 = ((k + 1 : Nat) : Int) := wa1 (by omega)
   simp only [ret_bind, ret_if, ret_get, ret_set, ret_app, ret_mkL, ret_sli, ret_wr, ret_wq, ret_some, vq_l, vq_r, Int.toNat_natCast, if_true, if_false, obs, decide_false, decide_true, Bool.false_eq_true, Bool.not_true, Bool.not_false, not_true_eq_false, not_false_eq_true, true_implies, false_implies, reduceCtorEq, true_and, and_true, false_and, or_false, false_or, implies_true, e1', e2', e4, e5, e6, hw]
   omega
  ·have e5 : ¬ (k : Int) < (adj.length : Int) := by omega
   simp only [ret_bind, ret_if, ret_get, ret_set, ret_app, ret_mkL, ret_sli, ret_wr, ret_wq, ret_some, vq_l, vq_r, Int.toNat_natCast, if_true, if_false, obs, decide_false, decide_true, Bool.false_eq_true, Bool.not_true, Bool.not_false, not_true_eq_false, not_false_eq_true, true_implies, false_implies, reduceCtorEq, true_and, and_true, false_and, or_false, false_or, implies_true, e5]
 have l8 : loop (dissect_CheckWeighted_l8 adj ed vx) 0 = some (.inl ()) := by
  refine Ret.eq ?_
  refine ret_loop adj.length (fun k (t : Int) => t = (k : Int)) rfl ?_
  rintro v _ hk rfl
  unfold dissect_CheckWeighted_l8
  by_cases hkl : v < adj.length
  ·obtain ⟨l, e, e1, e2, e3⟩ := h.row hkl
   have e1' : getI adj (v : Int) = some l := e1
   have e2' : getI ed (v : Int) = some e := e2
   have hll := h.gr.len e1
   have e5 : (v : Int) < (adj.length : Int) := by omega
   have hw : wa .i64 (v : Int) 1 = ((v + 1 : Nat) : Int) := wa1 (by omega)
   have inner : loop (dissect_CheckWeighted_l9 l ed (v : Int) adj vx) 0 = some (.inl ()) := by
    refine Ret.eq ?_
    refine ret_loop l.length (fun k (t : Int) => t = (k : Int)) rfl ?_
    rintro k _ hk rfl
    unfold dissect_CheckWeighted_l9
    by_cases hkl : k < l.length
    ·obtain ⟨u, hu⟩ : ∃ u, l[k]? = some u := ⟨l[k], by simp [hkl]⟩
     obtain ⟨x, hx⟩ : ∃ x, e[k]? = some x := ⟨e[k]'(by omega), by simp [show k < e.length by omega]⟩
     obtain ⟨l', e', k', f1, f2, f3, f4⟩ := h.sy v k l e u x e1 e2 hu hx
     have hur := h.gr.rng v l u e1 (mem_get hu)
     have g1 : getI l (k : Int) = some u := hu
     have g2 : getI e (k : Int) = some x := hx
     have g3 : getI adj u = some l' := getI_of hur.1 f1
     have g4 : getI ed u = some e' := getI_of hur.1 f2
     have g5 := search_at (h.gr.asc _ _ f1) (by have := h.gr.len f1; omega) f3
     have g6 : getI e' (k' : Int) = some x := f4
     have g7 : dissect_weight adj vx ed u (v : Int) = some x := by
      unfold dissect_weight
      rw [bindS g3, bindS g5, bindS g4, bindS g6]
     have e5 : (k : Int) < (l.length : Int) := by omega
     have hw : wa .i64 (k : Int) 1 = ((k + 1 : Nat) : Int) := wa1 (by omega)
     simp only [ret_bind, ret_if, ret_get, ret_set, ret_app, ret_mkL, ret_sli, ret_wr, ret_wq, ret_some, vq_l, vq_r, Int.toNat_natCast, if_true, if_false, obs, decide_false, decide_true, Bool.false_eq_true, Bool.not_true, Bool.not_false, not_true_eq_false, not_false_eq_true, true_implies, false_implies, reduceCtorEq, true_and, and_true, false_and, or_false, false_or, implies_true, g1, e2', g2, g7, e5, hw]
     omega
    ·have e5 : ¬ (k : Int) < (l.length : Int) := by omega
     simp only [ret_bind, ret_if, ret_get, ret_set, ret_app, ret_mkL, ret_sli, ret_wr, ret_wq, ret_some, vq_l, vq_r, Int.toNat_natCast, if_true, if_false, obs, decide_false, decide_true, Bool.false_eq_true, Bool.not_true, Bool.not_false, not_true_eq_false, not_false_eq_true, true_implies, false_implies, reduceCtorEq, true_and, and_true, false_and, or_false, false_or, implies_true, e5]
   simp only [ret_bind, ret_if, ret_get, ret_set, ret_app, ret_mkL, ret_sli, ret_wr, ret_wq, ret_some, vq_l, vq_r, Int.toNat_natCast, if_true, if_false, obs, decide_false, decide_true, Bool.false_eq_true, Bool.not_true, Bool.not_false, not_true_eq_false, not_false_eq_true, true_implies, false_implies, reduceCtorEq, true_and, and_true, false_and, or_false, false_or, implies_true, e1', inner, e5, hw]
   omega
  ·have e5 : ¬ (v : Int) < (adj.length : Int) := by omega
   simp only [ret_bind, ret_if, ret_get, ret_set, ret_app, ret_mkL, ret_sli, ret_wr, ret_wq, ret_some, vq_l, vq_r, Int.toNat_natCast, if_true, if_false, obs, decide_false, decide_true, Bool.false_eq_true, Bool.not_true, Bool.not_false, not_true_eq_false, not_false_eq_true, true_implies, false_implies, reduceCtorEq, true_and, and_true, false_and, or_false, false_or, implies_true, e5]
 simp only [Bool.not_true, obs, Bool.false_eq_true, if_false]
 rw [bindS l5]
 simp only
 rw [bindS l8]

/-! ### weighted graphs made from numbers -/
end Pd
/- Repeat; the matching of heavy edges; the law on it. -/
set_option linter.unusedSimpArgs false
set_option linter.unusedVariables false
namespace Pd
open Pl Sx Go M Vc

theorem awake18 : sparselaw18_awake = some true := by kernel_rfl

theorem mul_all : ((List.range 1001).all fun n => math_bits_Mul64 1 (n : Int) == some (0, (n : Int))) = true := by kernel_rfl
theorem mul_one {n : Nat} (hn : n ≤ 1000) : math_bits_Mul 1 (n : Int) = some (0, (n : Int)) := by
 have h := List.all_eq_true.1 mul_all n (List.mem_range.2 (by omega))
 have h' : math_bits_Mul64 1 (n : Int) = some (0, (n : Int)) := by simpa using h
 unfold math_bits_Mul
 rw [bindS h']

theorem cpI_ok {β : Type} {l m : List β} {lo hi : Nat} (h1 : lo ≤ hi) (h2 : hi ≤ l.length) : cpI l (lo : Int) (hi : Int) m = some (l.take lo ++ m.take (hi - lo) ++ l.drop (lo + min m.length (hi - lo)), ((min m.length (hi - lo) : Nat) : Int)) := by
 unfold cpI
 rw [if_pos (by omega)]
 simp only [Int.toNat_natCast]

theorem repeat_ok {n : Nat} (hn : n ≤ 1000) (x : Int) : slices_Repeat_int [x] (n : Int) = some (List.replicate n x) := by
 unfold slices_Repeat_int slices_Repeat_int_j1 slices_Repeat_int_j3
 have e1 : wc .u64 (([x] : List Int).length : Int) = 1 := rfl
 have e2 : wc .u64 (n : Int) = (n : Int) := IntWalk.u64_in _ (by omega)
 have e3 : wc .i64 (n : Int) = (n : Int) := IntWalk.i64_in _ (by omega)
 have e4 : (decide ((0 : Int) < 0) || decide ((9223372036854775807 : Int) < (n : Int))) = false := by simp; omega
 rw [if_neg (by omega), e1, e2, bindS (mul_one hn)]
 simp only [e3, e4, Bool.false_eq_true, if_false]
 rw [bindS (mkL_nat 0 n (by omega))]
 have hrl : (List.replicate n (0 : Int)).length = n := by simp
 have e5 : cpI (List.replicate n (0 : Int)) 0 (((List.replicate n (0 : Int)).length : Nat) : Int) [x] = some (List.replicate (min 1 n) x ++ List.replicate (n - min 1 n) 0, ((min 1 n : Nat) : Int)) := by
  have := cpI_ok (l := List.replicate n (0 : Int)) (m := [x]) (lo := 0) (hi := n) (by omega) (by simp)
  rw [hrl]
  rw [show ((0 : Nat) : Int) = 0 from rfl] at this
  rw [this]
  congr 2
  simp only [List.take_zero, List.nil_append, Nat.sub_zero, Nat.zero_add, List.length_singleton, List.drop_replicate]
  cases n with
  | zero => simp
  | succ n => simp [Nat.min_eq_left]
 rw [bindS e5]
 simp only
 by_cases h0 : n = 0
 ·subst h0
  have : loop slices_Repeat_int_l4 (List.replicate (min 1 0) x ++ List.replicate (0 - min 1 0) 0, ((min 1 0 : Nat) : Int)) = some [] := by
   refine Ret.eq ?_
   refine ret_loop 0 (fun k (t : List Int × Int) => t = ([], 0)) rfl ?_
   rintro k _ hk rfl
   unfold slices_Repeat_int_l4
   simp only [ret_bind, ret_if, ret_get, ret_set, ret_app, ret_mkL, ret_sli, ret_wr, ret_wq, ret_some, vq_l, vq_r, Int.toNat_natCast, if_true, if_false, obs, decide_false, decide_true, Bool.false_eq_true, Bool.not_true, Bool.not_false, not_true_eq_false, not_false_eq_true, true_implies, false_implies, reduceCtorEq, true_and, and_true, false_and, or_false, false_or, implies_true]
   simp
  rw [bindS this]; rfl
 ·have hm : min 1 n = 1 := by omega
  rw [hm]
  have : loop slices_Repeat_int_l4 (List.replicate 1 x ++ List.replicate (n - 1) 0, ((1 : Nat) : Int)) = some (List.replicate n x) := by
   refine Ret.eq ?_
   refine ret_loop n (fun j (t : List Int × Int) => ∃ k : Nat, t = (List.replicate k x ++ List.replicate (n - k) 0, (k : Int)) ∧ k ≤ n ∧ j + 1 ≤ k) ⟨1, rfl, by omega, by omega⟩ ?_
   rintro j _ hj ⟨k, rfl, hk1, hk2⟩
   unfold slices_Repeat_int_l4
   have hlen : (List.replicate k x ++ List.replicate (n - k) (0 : Int)).length = n := by simp; omega
   simp only [hlen]
   by_cases hkn : k < n
   ·have e6 : (k : Int) < (n : Int) := by omega
    have s1 : sli (List.replicate k x ++ List.replicate (n - k) (0 : Int)) (k : Int) (n : Int) = some (List.replicate (n - k) 0) := by
     unfold sli subL
     rw [if_pos (by rw [hlen]; omega), Int.toNat_natCast, Int.toNat_natCast, List.take_of_length_le (by omega)]
     rw [List.drop_left' (by simp)]
    have s2 : sli (List.replicate k x ++ List.replicate (n - k) (0 : Int)) 0 (k : Int) = some (List.replicate k x) := by
     unfold sli subL
     rw [if_pos (by rw [hlen]; omega), Int.toNat_natCast, List.take_left' (by simp)]
     rfl
    have s3 := cpI_ok (l := List.replicate k x ++ List.replicate (n - k) (0 : Int)) (m := List.replicate k x) (lo := k) (hi := n) (by omega) (by omega)
    rw [List.take_left' (by simp)] at s3
    have s4 : List.replicate k x ++ (List.replicate k x).take (n - k) ++ (List.replicate k x ++ List.replicate (n - k) (0 : Int)).drop (k + min (List.replicate k x).length (n - k)) = List.replicate (k + min k (n - k)) x ++ List.replicate (n - (k + min k (n - k))) 0 := by
     rw [List.take_replicate, List.length_replicate, ← List.drop_drop, List.drop_left' (by simp), List.drop_replicate, List.replicate_append_replicate, Nat.min_comm (n - k) k]
     congr 2
     omega
    rw [s4, List.length_replicate] at s3
    have hw : wa .i64 (k : Int) ((min k (n - k) : Nat) : Int) = ((k + min k (n - k) : Nat) : Int) := by rw [wa_i (by omega) (by omega)]; omega
    simp only [ret_bind, ret_if, ret_get, ret_set, ret_app, ret_mkL, ret_sli, ret_wr, ret_wq, ret_some, vq_l, vq_r, Int.toNat_natCast, if_true, if_false, obs, decide_false, decide_true, Bool.false_eq_true, Bool.not_true, Bool.not_false, not_true_eq_false, not_false_eq_true, true_implies, false_implies, reduceCtorEq, true_and, and_true, false_and, or_false, false_or, implies_true, e6, s1, s2, s3, hw]
    exact ⟨by omega, k + min k (n - k), rfl, by omega, by omega⟩
   ·have e6 : ¬ (k : Int) < (n : Int) := by omega
    have : k = n := by omega
    subst this
    simp only [ret_bind, ret_if, ret_get, ret_set, ret_app, ret_mkL, ret_sli, ret_wr, ret_wq, ret_some, vq_l, vq_r, Int.toNat_natCast, if_true, if_false, obs, decide_false, decide_true, Bool.false_eq_true, Bool.not_true, Bool.not_false, not_true_eq_false, not_false_eq_true, true_implies, false_implies, reduceCtorEq, true_and, and_true, false_and, or_false, false_or, implies_true, e6]
    simp
  rw [bindS this]

/-! ### the matching -/
structure Mt (adj : List (List Int)) (m : List Int) : Prop where
 len : m.length = adj.length
 mate : ∀ (v : Nat) u, m[v]? = some u → (0 ≤ u ∧ u < adj.length) ∧ m[u.toNat]? = some (v : Int) ∧ (u ≠ v → ∃ l, adj[v]? = some l ∧ u ∈ l)
 mx : ∀ (v : Nat) l u, adj[v]? = some l → u ∈ l → m[v]? = some (v : Int) → m[u.toNat]? ≠ some u

/-- a list of mates (neighbours or not) -/
structure Ml (n : Nat) (m : List Int) : Prop where
 len : m.length = n
 mate : ∀ (v : Nat) u, m[v]? = some u → (0 ≤ u ∧ u < n) ∧ m[u.toNat]? = some (v : Int)
theorem Mt.ml {adj : List (List Int)} {m : List Int} {n : Nat} (h : Mt adj m) (hn : adj.length = n) : Ml n m := by
 subst hn
 exact ⟨h.len, fun v u hu => ⟨(h.mate v u hu).1, (h.mate v u hu).2.1⟩⟩

/-- on the way -/
structure Mw (adj : List (List Int)) (k : Nat) (m : List Int) : Prop where
 len : m.length = adj.length
 mate : ∀ (v : Nat) u, m[v]? = some u → u = -1 ∨ ((0 ≤ u ∧ u < adj.length) ∧ m[u.toNat]? = some (v : Int) ∧ (u ≠ v → ∃ l, adj[v]? = some l ∧ u ∈ l))
 all : ∀ (v : Nat), v < k → m[v]? ≠ some (-1)
 mx : ∀ (v : Nat) l u, adj[v]? = some l → u ∈ l → m[v]? = some (v : Int) → m[u.toNat]? ≠ some (-1) ∧ m[u.toNat]? ≠ some u

theorem best_loop {adj : List (List Int)} {vx : List Int} {ed : List (List Int)} (h : Wt adj vx ed) {v : Nat} (hv : v < adj.length) {l : List Int} (hl : adj[v]? = some l) {m : List Int} (hm : m.length = adj.length) (hn : adj.length ≤ 1000) :
  Ret (loop (dissect_match_l65 l m ed (v : Int)) ((v : Int), 0, 0)) (fun b => (b = v ∧ ∀ u, u ∈ l → m[u.toNat]? ≠ some (-1)) ∨ (b ∈ l ∧ m[b.toNat]? = some (-1))) := by
 obtain ⟨l', e, h1, h2, h3⟩ := h.row hv
 rw [hl] at h1
 obtain rfl := Option.some.inj h1
 have hll := h.gr.len hl
 refine ret_loop l.length (fun k (t : Int × Int × Int) => t.2.2 = k ∧ ((t.1 = v ∧ t.2.1 = 0 ∧ ∀ (j : Nat) u, j < k → l[j]? = some u → m[u.toNat]? ≠ some (-1)) ∨ (t.1 ∈ l ∧ m[t.1.toNat]? = some (-1)))) ⟨rfl, .inl ⟨rfl, rfl, fun j u hj => by omega⟩⟩ ?_
 rintro k ⟨b, w, i⟩ hk ⟨rfl, hI⟩
 simp only at hI
 unfold dissect_match_l65 dissect_match_j67
 by_cases hkl : k < l.length
 ·obtain ⟨u, hu⟩ : ∃ u, l[k]? = some u := ⟨l[k], by simp [hkl]⟩
  obtain ⟨x, hx⟩ : ∃ x, e[k]? = some x := ⟨e[k]'(by omega), by simp [show k < e.length by omega]⟩
  have hur := h.gr.rng v l u hl (mem_get hu)
  have hxw := h.er e (mem_get h2) x (mem_get hx)
  obtain ⟨q, hq⟩ : ∃ q, m[u.toNat]? = some q := ⟨m[u.toNat]'(by omega), by simp [show u.toNat < m.length by omega]⟩
  have e1 : getI l (k : Int) = some u := hu
  have e2 : getI m u = some q := getI_of hur.1 hq
  have e3 : getI ed (v : Int) = some e := h2
  have e4 : getI e (k : Int) = some x := hx
  have e5 : (k : Int) < (l.length : Int) := by omega
  have hw : wa .i64 (k : Int) 1 = ((k + 1 : Nat) : Int) := wa1 (by omega)
  by_cases hq1 : q = -1
  ·subst hq1
   by_cases hwx : w < x
   ·simp only [ret_bind, ret_if, ret_get, ret_set, ret_app, ret_mkL, ret_sli, ret_wr, ret_wq, ret_some, vq_l, vq_r, Int.toNat_natCast, if_true, if_false, obs, decide_false, decide_true, Bool.false_eq_true, Bool.not_true, Bool.not_false, not_true_eq_false, not_false_eq_true, true_implies, false_implies, reduceCtorEq, true_and, and_true, false_and, or_false, false_or, implies_true, e1, e2, e3, e4, e5, hwx, hw]
    exact ⟨hkl, .inr ⟨mem_get hu, hq⟩⟩
   ·simp only [ret_bind, ret_if, ret_get, ret_set, ret_app, ret_mkL, ret_sli, ret_wr, ret_wq, ret_some, vq_l, vq_r, Int.toNat_natCast, if_true, if_false, obs, decide_false, decide_true, Bool.false_eq_true, Bool.not_true, Bool.not_false, not_true_eq_false, not_false_eq_true, true_implies, false_implies, reduceCtorEq, true_and, and_true, false_and, or_false, false_or, implies_true, e1, e2, e3, e4, e5, hwx, hw]
    refine ⟨hkl, ?_⟩
    rcases hI with ⟨_, h5, _⟩ | h5
    ·unfold Wg at hxw; omega
    ·exact .inr h5
  ·simp only [ret_bind, ret_if, ret_get, ret_set, ret_app, ret_mkL, ret_sli, ret_wr, ret_wq, ret_some, vq_l, vq_r, Int.toNat_natCast, if_true, if_false, obs, decide_false, decide_true, Bool.false_eq_true, Bool.not_true, Bool.not_false, not_true_eq_false, not_false_eq_true, true_implies, false_implies, reduceCtorEq, true_and, and_true, false_and, or_false, false_or, implies_true, e1, e2, e5, hq1, hw]
   refine ⟨hkl, hI.imp (fun ⟨h5, h6, h7⟩ => ⟨h5, h6, fun j u' hj hu' => ?_⟩) id⟩
   by_cases hjk : j = k
   ·subst hjk
    rw [hu] at hu'
    obtain rfl := Option.some.inj hu'
    rw [hq]
    simpa using hq1
   ·exact h7 j u' (by omega) hu'
 ·have e5 : ¬ (k : Int) < (l.length : Int) := by omega
  simp only [ret_bind, ret_if, ret_get, ret_set, ret_app, ret_mkL, ret_sli, ret_wr, ret_wq, ret_some, vq_l, vq_r, Int.toNat_natCast, if_true, if_false, obs, decide_false, decide_true, Bool.false_eq_true, Bool.not_true, Bool.not_false, not_true_eq_false, not_false_eq_true, true_implies, false_implies, reduceCtorEq, true_and, and_true, false_and, or_false, false_or, implies_true, e5]
  refine hI.imp (fun ⟨h5, _, h7⟩ => ⟨h5, fun u hu => ?_⟩) id
  obtain ⟨j, hj⟩ := List.mem_iff_getElem?.1 hu
  exact h7 j u (by have := (List.getElem?_eq_some_iff.1 hj).1; omega) hj

theorem match_step {adj : List (List Int)} (hG : Gr adj) {k : Nat} {m : List Int} (h : Mw adj k m) (hk : k < adj.length) (hk1 : m[k]? = some (-1)) {l : List Int} (hl : adj[k]? = some l) {b : Int} (hb : (b = k ∧ ∀ u, u ∈ l → m[u.toNat]? ≠ some (-1)) ∨ (b ∈ l ∧ m[b.toNat]? = some (-1))) :
  Mw adj (k + 1) ((m.set k b).set b.toNat (k : Int)) := by
 have hml := h.len
 have hbr : 0 ≤ b ∧ b < adj.length := by
  rcases hb with ⟨rfl, _⟩ | ⟨h1, _⟩
  ·omega
  ·have := hG.rng k l b hl h1; omega
 have hb1 : m[b.toNat]? = some (-1) := by
  rcases hb with ⟨rfl, _⟩ | ⟨_, h1⟩
  ·simpa using hk1
  ·exact h1
 have hbl : b ≠ k → b ∈ l := by
  rcases hb with ⟨rfl, _⟩ | ⟨h1, _⟩
  ·intro h; exact absurd rfl h
  ·intro _; exact h1
 have get : ∀ (v : Nat), ((m.set k b).set b.toNat (k : Int))[v]? = if v = b.toNat then some (k : Int) else if v = k then some b else m[v]? := by
  intro v
  rw [List.getElem?_set, List.getElem?_set]
  by_cases h1 : v = b.toNat
  ·rw [if_pos h1.symm, if_pos (by simp; omega), if_pos h1]
  ·rw [if_neg (fun h => h1 h.symm), if_neg h1]
   by_cases h2 : v = k
   ·rw [if_pos h2.symm, if_pos (by omega), if_pos h2]
   ·rw [if_neg (fun h => h2 h.symm), if_neg h2]
 refine ⟨by simp [hml], ?_, ?_, ?_⟩
 ·intro v u hu
  rw [get] at hu
  by_cases h1 : v = b.toNat
  ·rw [if_pos h1] at hu
   obtain rfl := Option.some.inj hu
   refine .inr ⟨by omega, ?_, fun hne => ?_⟩
   ·rw [get, Int.toNat_natCast]
    by_cases h2 : k = b.toNat
    ·rw [if_pos h2]; congr 1; omega
    ·rw [if_neg h2, if_pos rfl]; congr 1; omega
   ·have hbk : b ≠ k := by omega
    obtain ⟨m', hm1, hm2⟩ := hG.sym k l b hl (hbl hbk)
    exact ⟨m', by rw [h1]; exact hm1, hm2⟩
  ·rw [if_neg h1] at hu
   by_cases h2 : v = k
   ·rw [if_pos h2] at hu
    obtain rfl := Option.some.inj hu
    refine .inr ⟨hbr, ?_, fun hne => ⟨l, by rw [h2]; exact hl, hbl (by omega)⟩⟩
    rw [get, if_pos rfl, h2]
   ·rw [if_neg h2] at hu
    rcases h.mate v u hu with rfl | ⟨h3, h4, h5⟩
    ·exact .inl rfl
    ·refine .inr ⟨h3, ?_, h5⟩
     rw [get]
     have hub : u.toNat ≠ b.toNat := by
      intro he
      rw [he, hb1] at h4
      have := Option.some.inj h4; omega
     have huk : u.toNat ≠ k := by
      intro he
      rw [he, hk1] at h4
      have := Option.some.inj h4; omega
     rw [if_neg hub, if_neg huk]; exact h4
 ·intro v hv
  rw [get]
  by_cases h1 : v = b.toNat
  ·rw [if_pos h1]; intro h; have := Option.some.inj h; omega
  ·rw [if_neg h1]
   by_cases h2 : v = k
   ·rw [if_pos h2]; intro h; have := Option.some.inj h; omega
   ·rw [if_neg h2]; exact h.all v (by omega)
 ·intro v l' u hl' hu hv
  rw [get] at hv
  have hur := hG.rng v l' u hl' hu
  by_cases h1 : v = b.toNat
  ·rw [if_pos h1] at hv
   have hvk := Option.some.inj hv
   have hvk' : v = k := by omega
   subst hvk'
   rw [hl] at hl'
   obtain rfl := Option.some.inj hl'
   rcases hb with ⟨_, hall⟩ | ⟨hbm, _⟩
   ·have h3 := hall u hu
    rw [get, if_neg (by omega), if_neg (by omega)]
    refine ⟨h3, fun h4 => ?_⟩
    obtain ⟨m', hm1, hm2⟩ := hG.sym v l u hl hu
    have := (h.mx u.toNat m' (v : Int) hm1 hm2 (by rw [h4]; congr 1; omega)).1
    rw [Int.toNat_natCast] at this
    exact this hk1
   ·have := (hG.rng v l b hl hbm).2.2
    omega
  ·rw [if_neg h1] at hv
   by_cases h2 : v = k
   ·rw [if_pos h2] at hv
    have := Option.some.inj hv
    omega
   ·rw [if_neg h2] at hv
    obtain ⟨h3, h4⟩ := h.mx v l' u hl' hu hv
    have hub : u.toNat ≠ b.toNat := fun he => h3 (by rw [he]; exact hb1)
    have huk : u.toNat ≠ k := fun he => h3 (by rw [he]; exact hk1)
    rw [get, if_neg hub, if_neg huk]
    exact ⟨h3, h4⟩
theorem match_ok {adj : List (List Int)} {vx : List Int} {ed : List (List Int)} (h : Wt adj vx ed) (hn : adj.length ≤ 200) : Ret (dissect_match adj vx ed) (Mt adj) := by
 unfold dissect_match
 have hvl := h.vl
 rw [hvl, bindS (repeat_ok (by omega) (-1)), ret_bind]
 simp only [ret_some]
 refine ret_loop adj.length (fun k (t : List Int × Int) => t.2 = k ∧ Mw adj k t.1) ⟨rfl, by simp, fun v u hu => .inl (List.mem_replicate.1 (mem_get hu)).2, fun v hv => by omega, fun v l u _ _ hv => by
  have := (List.mem_replicate.1 (mem_get hv)).2; omega⟩ ?_
 rintro k ⟨m, i⟩ hk ⟨rfl, hI⟩
 simp only at hI
 have hml := hI.len
 unfold dissect_match_l45 dissect_match_j60
 by_cases hkn : k < adj.length
 ·obtain ⟨l, hl⟩ : ∃ l, adj[k]? = some l := ⟨adj[k], by simp [hkn]⟩
  obtain ⟨q, hq⟩ : ∃ q, m[k]? = some q := ⟨m[k]'(by omega), by simp [show k < m.length by omega]⟩
  have e1 : getI adj (k : Int) = some l := hl
  have e2 : getI m (k : Int) = some q := hq
  have e5 : (k : Int) < (adj.length : Int) := by omega
  have hw : wa .i64 (k : Int) 1 = ((k + 1 : Nat) : Int) := wa1 (by omega)
  by_cases hq1 : q = -1
  ·subst hq1
   simp only [ret_bind, ret_if, ret_of e1, ret_of e2, e5, true_implies, not_true_eq_false, false_implies, and_true]
   refine ret_call (best_loop h hkn hl hml (by omega)) ?_
   intro b hb
   have hbr : 0 ≤ b ∧ b < adj.length := by
    rcases hb with ⟨rfl, _⟩ | ⟨h1, _⟩
    ·omega
    ·have := h.gr.rng k l b hl h1; omega
   have e3 : setI m (k : Int) b = some (m.set k b) := setI_lt (by omega)
   have e4 : setI (m.set k b) b (k : Int) = some ((m.set k b).set b.toNat (k : Int)) := setI_of hbr.1 (by simp; omega)
   rw [ret_of e3, ret_of e4, ret_some, vq_l, hw]
   exact ⟨hkn, rfl, match_step h.gr hI hkn hq hl hb⟩
  ·simp only [ret_bind, ret_if, ret_get, ret_set, ret_app, ret_mkL, ret_sli, ret_wr, ret_wq, ret_some, vq_l, vq_r, Int.toNat_natCast, if_true, if_false, obs, decide_false, decide_true, Bool.false_eq_true, Bool.not_true, Bool.not_false, not_true_eq_false, not_false_eq_true, true_implies, false_implies, reduceCtorEq, true_and, and_true, false_and, or_false, false_or, implies_true, e1, e2, e5, hq1, hw]
   refine ⟨hkn, hI.len, hI.mate, fun v hv => ?_, hI.mx⟩
   by_cases hvk : v = k
   ·subst hvk; rw [hq]; simpa using hq1
   ·exact hI.all v (by omega)
 ·have e5 : ¬ (k : Int) < (adj.length : Int) := by omega
  have : k = adj.length := by omega
  subst this
  simp only [ret_bind, ret_if, ret_get, ret_set, ret_app, ret_mkL, ret_sli, ret_wr, ret_wq, ret_some, vq_l, vq_r, Int.toNat_natCast, if_true, if_false, obs, decide_false, decide_true, Bool.false_eq_true, Bool.not_true, Bool.not_false, not_true_eq_false, not_false_eq_true, true_implies, false_implies, reduceCtorEq, true_and, and_true, false_and, or_false, false_or, implies_true, e5]
  refine ⟨hml, fun v u hu => ?_, fun v l u h1 h2 h3 => (hI.mx v l u h1 h2 h3).2⟩
  rcases hI.mate v u hu with rfl | h1
  ·exact absurd hu (hI.all v (by have := (List.getElem?_eq_some_iff.1 hu).1; omega))
  ·exact h1

end Pd
/- Finite sums; weighted graphs as tables of weights. -/
set_option linter.unusedSimpArgs false
set_option linter.unusedVariables false
namespace Pd
open Pl Sx Go M Vc

/-! ### sums -/
def sm : Nat → (Nat → Int) → Int
 | 0, _ => 0
 | n + 1, f => sm n f + f n
theorem sm_congr {n : Nat} {f g : Nat → Int} (h : ∀ i, i < n → f i = g i) : sm n f = sm n g := by
 induction n with
 | zero => rfl
 | succ n ih => rw [sm, sm, ih (fun i hi => h i (by omega)), h n (by omega)]
theorem sm_zero {n : Nat} {f : Nat → Int} (h : ∀ i, i < n → f i = 0) : sm n f = 0 := by
 induction n with
 | zero => rfl
 | succ n ih => rw [sm, ih (fun i hi => h i (by omega)), h n (by omega)]; rfl
theorem sm_add {n : Nat} {f g : Nat → Int} : sm n (fun i => f i + g i) = sm n f + sm n g := by
 induction n with
 | zero => rfl
 | succ n ih => simp only [sm, ih]; omega
theorem sm_swap {n m : Nat} {f : Nat → Nat → Int} : sm n (fun i => sm m fun j => f i j) = sm m (fun j => sm n fun i => f i j) := by
 induction n with
 | zero => exact (sm_zero fun _ _ => rfl).symm
 | succ n ih => simp only [sm]; rw [ih, sm_add]
theorem sm_le {n : Nat} {f g : Nat → Int} (h : ∀ i, i < n → f i ≤ g i) : sm n f ≤ sm n g := by
 induction n with
 | zero => exact Int.le_refl _
 | succ n ih => have := ih (fun i hi => h i (by omega)); have := h n (by omega); simp only [sm]; omega
theorem sm_nonneg {n : Nat} {f : Nat → Int} (h : ∀ i, i < n → 0 ≤ f i) : 0 ≤ sm n f := by
 induction n with
 | zero => exact Int.le_refl _
 | succ n ih => have := ih (fun i hi => h i (by omega)); have := h n (by omega); simp only [sm]; omega
theorem sm_bound {n : Nat} {f : Nat → Int} {B : Int} (h : ∀ i, i < n → f i ≤ B) : sm n f ≤ n * B := by
 induction n with
 | zero => simp [sm]
 | succ n ih =>
  have h1 := ih (fun i hi => h i (by omega)); have h2 := h n (by omega)
  simp only [sm]
  have : ((n + 1 : Nat) : Int) * B = n * B + B := by rw [Int.natCast_add, Int.add_mul]; omega
  omega
/-- one term -/
theorem sm_one {n a : Nat} {x : Int} (h : a < n) : sm n (fun i => if a = i then x else 0) = x := by
 induction n with
 | zero => omega
 | succ n ih =>
  rw [sm]
  by_cases ha : a = n
  ·subst ha
   rw [if_pos rfl, sm_zero (fun i hi => by rw [if_neg (by omega)])]; omega
  ·rw [if_neg ha, ih (by omega)]; omega
theorem sm_pos {n : Nat} {f : Nat → Int} (h : ∀ i, i < n → 0 ≤ f i) {a : Nat} (ha : a < n) : f a ≤ sm n f := by
 induction n with
 | zero => omega
 | succ n ih =>
  rw [sm]
  have h1 := sm_nonneg (n := n) (f := f) (fun i hi => h i (by omega))
  by_cases he : a = n
  ·subst he; omega
  ·have := ih (fun i hi => h i (by omega)) (by omega)
   have := h n (by omega)
   omega
/-- the sum of a symmetric table that is zero on the diagonal is twice its part below -/
theorem sm_half {n : Nat} {f : Nat → Nat → Int} (hs : ∀ i j, i < n → j < n → f i j = f j i) (hd : ∀ i, i < n → f i i = 0) :
  sm n (fun i => sm n fun j => f i j) = 2 * sm n (fun i => sm n fun j => if j < i then f i j else 0) := by
 have h1 : sm n (fun i => sm n fun j => f i j) = sm n (fun i => sm n fun j => (if j < i then f i j else 0)) + sm n (fun i => sm n fun j => (if i < j then f i j else 0)) := by
  rw [← sm_add]
  refine sm_congr fun i hi => ?_
  rw [← sm_add]
  refine sm_congr fun j hj => ?_
  by_cases h1 : j < i
  ·rw [if_pos h1, if_neg (by omega)]; omega
  ·by_cases h2 : i < j
   ·rw [if_neg h1, if_pos h2]; omega
   ·have : i = j := by omega
    subst this
    rw [hd i hi]; simp
 have h2 : sm n (fun i => sm n fun j => (if i < j then f i j else 0)) = sm n (fun i => sm n fun j => (if j < i then f i j else 0)) := by
  rw [sm_swap]
  refine sm_congr fun j hj => sm_congr fun i hi => ?_
  by_cases h : i < j
  ·rw [if_pos h, if_pos h, hs i j hi hj]
  ·rw [if_neg h, if_neg h]
 rw [h1, h2]; omega

/-! ### tables of weights -/
def nbs (n : Nat) (f : Nat → Int) : List Nat := (List.range n).filter fun u => decide (0 < f u)
theorem nbs_mem {n : Nat} {f : Nat → Int} {u : Nat} : u ∈ nbs n f ↔ u < n ∧ 0 < f u := by simp [nbs]
theorem nbs_succ {n : Nat} {f : Nat → Int} : nbs (n + 1) f = if 0 < f n then nbs n f ++ [n] else nbs n f := by
 unfold nbs
 rw [List.range_succ, List.filter_append]
 by_cases h : 0 < f n
 ·simp [h]
 ·simp [h]
theorem nbs_asc {n : Nat} {f : Nat → Int} : (nbs n f).Pairwise (· < ·) := List.Pairwise.filter _ (List.pairwise_lt_range)
theorem nbs_len {n : Nat} {f : Nat → Int} : (nbs n f).length ≤ n := by
 have := List.length_filter_le (fun u => decide (0 < f u)) (List.range n)
 simpa [nbs] using this
/-- a sum along a row -/
theorem nbs_sum {n : Nat} {f : Nat → Int} {g : Nat → Int} : ((nbs n f).map g).sum = sm n (fun u => if 0 < f u then g u else 0) := by
 induction n with
 | zero => rfl
 | succ n ih =>
  rw [nbs_succ, sm, ← ih]
  by_cases h : 0 < f n
  ·rw [if_pos h, if_pos h, List.map_append, List.sum_append]; simp
  ·rw [if_neg h, if_neg h]; omega

def cadj (n : Nat) (W : Nat → Nat → Int) : List (List Int) := (List.range n).map fun v => (nbs n (W v)).map Int.ofNat
def ced (n : Nat) (W : Nat → Nat → Int) : List (List Int) := (List.range n).map fun v => (nbs n (W v)).map (W v)
theorem cadj_get {n : Nat} {W : Nat → Nat → Int} {v : Nat} (h : v < n) : (cadj n W)[v]? = some ((nbs n (W v)).map Int.ofNat) := by simp [cadj, h]
theorem ced_get {n : Nat} {W : Nat → Nat → Int} {v : Nat} (h : v < n) : (ced n W)[v]? = some ((nbs n (W v)).map (W v)) := by simp [ced, h]
theorem cadj_len {n : Nat} {W : Nat → Nat → Int} : (cadj n W).length = n := by simp [cadj]
theorem ced_len {n : Nat} {W : Nat → Nat → Int} : (ced n W).length = n := by simp [ced]

/-- a table of weights -/
structure Tw (n : Nat) (W : Nat → Nat → Int) (B : Int) : Prop where
 nn : ∀ v u, v < n → u < n → 0 ≤ W v u ∧ W v u ≤ B
 sym : ∀ v u, v < n → u < n → W v u = W u v
 dg : ∀ v, v < n → W v v = 0

theorem cadj_gr {n : Nat} {W : Nat → Nat → Int} {B : Int} (h : Tw n W B) : Gr (cadj n W) := by
 have hg : ∀ (v : Nat) l, (cadj n W)[v]? = some l → v < n ∧ l = (nbs n (W v)).map Int.ofNat := by
  intro v l hv
  have hvn : v < n := by have := (List.getElem?_eq_some_iff.1 hv).1; rwa [cadj_len] at this
  rw [cadj_get hvn] at hv
  exact ⟨hvn, (Option.some.inj hv).symm⟩
 refine ⟨?_, ?_, ?_⟩
 ·intro v l hv
  obtain ⟨_, rfl⟩ := hg v l hv
  rw [List.pairwise_map]
  exact nbs_asc.imp fun {a b} h => by show (a : Int) < (b : Int); omega
 ·intro v l x hv hx
  obtain ⟨hvn, rfl⟩ := hg v l hv
  obtain ⟨u, hu, rfl⟩ := List.mem_map.1 hx
  obtain ⟨h1, h2⟩ := nbs_mem.1 hu
  rw [cadj_len]
  refine ⟨Int.natCast_nonneg u, by show (u : Int) < n; omega, ?_⟩
  intro he
  have : u = v := by have : (u : Int) = v := he; omega
  subst this
  rw [h.dg u hvn] at h2; omega
 ·intro v l x hv hx
  obtain ⟨hvn, rfl⟩ := hg v l hv
  obtain ⟨u, hu, rfl⟩ := List.mem_map.1 hx
  obtain ⟨h1, h2⟩ := nbs_mem.1 hu
  refine ⟨(nbs n (W u)).map Int.ofNat, cadj_get h1, List.mem_map.2 ⟨v, nbs_mem.2 ⟨hvn, by rw [← h.sym v u hvn h1]; exact h2⟩, rfl⟩⟩

theorem canon_wt {n : Nat} {W : Nat → Nat → Int} (h : Tw n W 1099511627776) {vx : List Int} (hv : vx.length = n) (hw : ∀ x, x ∈ vx → Wg x) : Wt (cadj n W) vx (ced n W) := by
 refine ⟨cadj_gr h, by rw [cadj_len]; exact hv, by rw [cadj_len, ced_len], hw, ?_, ?_, ?_⟩
 ·intro v l e hl he
  have hvn : v < n := by have := (List.getElem?_eq_some_iff.1 hl).1; rwa [cadj_len] at this
  rw [cadj_get hvn] at hl
  rw [ced_get hvn] at he
  obtain rfl := Option.some.inj hl
  obtain rfl := Option.some.inj he
  simp
 ·intro e he x hx
  obtain ⟨v, hv'⟩ := List.mem_iff_getElem?.1 he
  have hvn : v < n := by have := (List.getElem?_eq_some_iff.1 hv').1; rwa [ced_len] at this
  rw [ced_get hvn] at hv'
  obtain rfl := Option.some.inj hv'
  obtain ⟨u, hu, rfl⟩ := List.mem_map.1 hx
  obtain ⟨h1, h2⟩ := nbs_mem.1 hu
  have := h.nn v u hvn h1
  exact ⟨by omega, this.2⟩
 ·intro v k l e u x hl he hu hx
  have hvn : v < n := by have := (List.getElem?_eq_some_iff.1 hl).1; rwa [cadj_len] at this
  rw [cadj_get hvn] at hl
  rw [ced_get hvn] at he
  obtain rfl := Option.some.inj hl
  obtain rfl := Option.some.inj he
  rw [List.getElem?_map] at hu hx
  cases hk : (nbs n (W v))[k]? with
  | none => rw [hk] at hu; cases hu
  | some q =>
   rw [hk] at hu hx
   obtain rfl := Option.some.inj hu
   obtain rfl := Option.some.inj hx
   obtain ⟨h1, h2⟩ := nbs_mem.1 (List.mem_of_getElem? hk)
   have hm : v ∈ nbs n (W q) := nbs_mem.2 ⟨hvn, by rw [← h.sym v q hvn h1]; exact h2⟩
   obtain ⟨k', hk'⟩ := List.mem_iff_getElem?.1 hm
   refine ⟨(nbs n (W q)).map Int.ofNat, (nbs n (W q)).map (W q), k', ?_, ?_, ?_, ?_⟩
   ·show (cadj n W)[q]? = _
    exact cadj_get h1
   ·show (ced n W)[q]? = _
    exact ced_get h1
   ·rw [List.getElem?_map, hk']; rfl
   ·rw [List.getElem?_map, hk']
    show some (W q v) = some (W v q)
    rw [h.sym v q hvn h1]

/-- the weight of a neighbour -/
def lk : List Int → List Int → Int → Int
 | x :: l, y :: e, u => if x = u then y else lk l e u
 | _, _, _ => 0
theorem lk_get {l e : List Int} (hd : l.Nodup) : ∀ {k : Nat} {u x : Int}, l[k]? = some u → e[k]? = some x → lk l e u = x := by
 induction l generalizing e with
 | nil => intro k u x h; simp at h
 | cons y l ih =>
  intro k u x hu hx
  obtain ⟨h1, h2⟩ := List.nodup_cons.1 hd
  cases e with
  | nil => simp at hx
  | cons z e =>
   cases k with
   | zero => simp at hu hx; subst hu hx; simp [lk]
   | succ k =>
    simp only [List.getElem?_cons_succ] at hu hx
    rw [lk, if_neg (fun he => h1 (by rw [he]; exact List.mem_of_getElem? hu))]
    exact ih h2 hu hx
theorem lk_no {l e : List Int} : ∀ {u : Int}, u ∉ l → lk l e u = 0 := by
 induction l generalizing e with
 | nil => intro u _; simp [lk]
 | cons y l ih =>
  intro u hu
  cases e with
  | nil => simp [lk]
  | cons z e =>
   rw [lk, if_neg (fun he => hu (by rw [he]; simp))]
   exact ih (fun h => hu (by simp [h]))
def wof (adj ed : List (List Int)) (v u : Nat) : Int := lk (adj[v]?.getD []) (ed[v]?.getD []) (u : Int)

theorem asc_ext' {a b : List Int} (ha : a.Pairwise (· < ·)) (hb : b.Pairwise (· < ·)) (h : ∀ x, x ∈ a ↔ x ∈ b) : a = b := by
 have nd : ∀ {a : List Int}, a.Pairwise (· < ·) → a.Nodup := fun ha => (List.nodup_iff_pairwise_ne).2 (ha.imp fun h => by omega)
 have hp := (List.perm_ext_iff_of_nodup (nd ha) (nd hb)).2 h
 exact List.Perm.eq_of_pairwise (le := fun a b : Int => a < b) (fun a b _ _ h1 h2 => by omega) ha hb hp

theorem Wt.canon {adj : List (List Int)} {vx : List Int} {ed : List (List Int)} (h : Wt adj vx ed) {B : Int} (hB0 : 0 ≤ B) (hB : ∀ e, e ∈ ed → ∀ x, x ∈ e → x ≤ B) :
  adj = cadj adj.length (wof adj ed) ∧ ed = ced adj.length (wof adj ed) ∧ Tw adj.length (wof adj ed) B := by
 have hel := h.el
 have nd : ∀ {a : List Int}, a.Pairwise (· < ·) → a.Nodup := fun ha => (List.nodup_iff_pairwise_ne).2 (ha.imp fun h => by omega)
 have row : ∀ v, v < adj.length → ∃ l e, adj[v]? = some l ∧ ed[v]? = some e ∧ e.length = l.length ∧ (∀ u, wof adj ed v u = lk l e (u : Int)) ∧ l = (nbs adj.length (wof adj ed v)).map Int.ofNat ∧ e = (nbs adj.length (wof adj ed v)).map (wof adj ed v) := by
  intro v hv
  obtain ⟨l, e, h1, h2, h3⟩ := h.row hv
  have hw : ∀ u, wof adj ed v u = lk l e (u : Int) := by intro u; unfold wof; rw [h1, h2]; rfl
  have hnd := nd (h.gr.asc v l h1)
  have hpos : ∀ u : Nat, 0 < wof adj ed v u ↔ (u : Int) ∈ l := by
   intro u
   rw [hw]
   by_cases hu : (u : Int) ∈ l
   ·obtain ⟨k, hk⟩ := List.mem_iff_getElem?.1 hu
    have hkl := (List.getElem?_eq_some_iff.1 hk).1
    obtain ⟨x, hx⟩ : ∃ x, e[k]? = some x := ⟨e[k]'(by omega), by simp [show k < e.length by omega]⟩
    rw [lk_get hnd hk hx]
    have := h.er e (mem_get h2) x (mem_get hx)
    unfold Wg at this
    exact ⟨fun _ => hu, fun _ => by omega⟩
   ·rw [lk_no hu]
    exact ⟨fun h => by omega, fun h => absurd h hu⟩
  have hl : l = (nbs adj.length (wof adj ed v)).map Int.ofNat := by
   refine asc_ext' (h.gr.asc v l h1) ?_ fun x => ?_
   ·rw [List.pairwise_map]
    exact nbs_asc.imp fun {a b} h => by show (a : Int) < (b : Int); omega
   ·constructor
    ·intro hx
     obtain ⟨g1, g2, _⟩ := h.gr.rng v l x h1 hx
     obtain ⟨u, rfl⟩ := Int.eq_ofNat_of_zero_le g1
     exact List.mem_map.2 ⟨u, nbs_mem.2 ⟨by omega, (hpos u).2 hx⟩, rfl⟩
    ·intro hx
     obtain ⟨u, hu, rfl⟩ := List.mem_map.1 hx
     exact (hpos u).1 (nbs_mem.1 hu).2
  refine ⟨l, e, h1, h2, h3, hw, hl, ?_⟩
  have hll : l.length = (nbs adj.length (wof adj ed v)).length := by
   have := congrArg List.length hl
   simpa using this
  apply List.ext_getElem?
  intro k
  by_cases hk : k < e.length
  ·obtain ⟨x, hx⟩ : ∃ x, e[k]? = some x := ⟨e[k], by simp [hk]⟩
   obtain ⟨q, hq⟩ : ∃ q, (nbs adj.length (wof adj ed v))[k]? = some q := ⟨(nbs adj.length (wof adj ed v))[k]'(by omega), by simp [show k < (nbs adj.length (wof adj ed v)).length by omega]⟩
   have hlk : l[k]? = some (q : Int) := by rw [hl, List.getElem?_map, hq]; rfl
   rw [hx, List.getElem?_map, hq]
   simp only [Option.map_some]
   rw [hw, lk_get hnd hlk hx]
  ·rw [List.getElem?_eq_none (by omega), List.getElem?_eq_none (by rw [List.length_map]; omega)]
 refine ⟨?_, ?_, ?_, ?_, ?_⟩
 ·apply List.ext_getElem?
  intro v
  by_cases hv : v < adj.length
  ·obtain ⟨l, e, h1, h2, h3, hw, hl, he⟩ := row v hv
   rw [h1, cadj_get hv, ← hl]
  ·rw [List.getElem?_eq_none (by omega), List.getElem?_eq_none (by rw [cadj_len]; omega)]
 ·apply List.ext_getElem?
  intro v
  by_cases hv : v < adj.length
  ·obtain ⟨l, e, h1, h2, h3, hw, hl, he⟩ := row v hv
   rw [h2, ced_get hv, ← he]
  ·rw [List.getElem?_eq_none (by omega), List.getElem?_eq_none (by rw [ced_len]; omega)]
 ·intro v u hv hu
  obtain ⟨l, e, h1, h2, h3, hw, hl, he⟩ := row v hv
  rw [hw]
  by_cases hm : (u : Int) ∈ l
  ·obtain ⟨k, hk⟩ := List.mem_iff_getElem?.1 hm
   have hkl := (List.getElem?_eq_some_iff.1 hk).1
   obtain ⟨x, hx⟩ : ∃ x, e[k]? = some x := ⟨e[k]'(by omega), by simp [show k < e.length by omega]⟩
   rw [lk_get (nd (h.gr.asc v l h1)) hk hx]
   have := h.er e (mem_get h2) x (mem_get hx)
   have := hB e (mem_get h2) x (mem_get hx)
   unfold Wg at *
   omega
  ·rw [lk_no hm]; omega
 ·intro v u hv hu
  obtain ⟨l, e, h1, h2, h3, hw, hl, he⟩ := row v hv
  obtain ⟨l', e', h1', h2', h3', hw', hl', he'⟩ := row u hu
  rw [hw, hw']
  by_cases hm : (u : Int) ∈ l
  ·obtain ⟨k, hk⟩ := List.mem_iff_getElem?.1 hm
   have hkl := (List.getElem?_eq_some_iff.1 hk).1
   obtain ⟨x, hx⟩ : ∃ x, e[k]? = some x := ⟨e[k]'(by omega), by simp [show k < e.length by omega]⟩
   obtain ⟨l2, e2, k', f1, f2, f3, f4⟩ := h.sy v k l e _ x h1 h2 hk hx
   rw [Int.toNat_natCast] at f1 f2
   rw [h1'] at f1; rw [h2'] at f2
   obtain rfl := Option.some.inj f1
   obtain rfl := Option.some.inj f2
   rw [lk_get (nd (h.gr.asc v l h1)) hk hx, lk_get (nd (h.gr.asc u l' h1')) f3 f4]
  ·have hm' : (v : Int) ∉ l' := by
    intro hmem
    obtain ⟨m, g1, g2⟩ := h.gr.sym u l' (v : Int) h1' hmem
    rw [Int.toNat_natCast, h1] at g1
    obtain rfl := Option.some.inj g1
    exact hm g2
   rw [lk_no hm, lk_no hm']
 ·intro v hv
  obtain ⟨l, e, h1, h2, h3, hw, hl, he⟩ := row v hv
  rw [hw, lk_no]
  intro hm
  exact (h.gr.rng v l (v : Int) h1 hm).2.2 rfl
end Pd
/- Coarsening: what the program makes of mates. -/
set_option linter.unusedSimpArgs false
set_option linter.unusedVariables false
namespace Pd
open Pl Sx Go M Vc

/-- the coarse vertex of v; the weight of v -/
def tt (to : List Int) (v : Nat) : Nat := (to[v]?.getD 0).toNat
def vw (vx : List Int) (v : Nat) : Int := vx[v]?.getD 0
theorem tt_get {to : List Int} {v : Nat} {a : Int} (h : to[v]? = some a) : tt to v = a.toNat := by unfold tt; rw [h]; rfl
theorem vw_get {vx : List Int} {v : Nat} {x : Int} (h : vx[v]? = some x) : vw vx v = x := by unfold vw; rw [h]; rfl
theorem tt_set {to : List Int} {k v : Nat} {a : Nat} (hk : k < to.length) : tt (to.set k (a : Int)) v = if v = k then a else tt to v := by
 unfold tt
 rw [List.getElem?_set]
 by_cases h : k = v
 ·subst h; rw [if_pos rfl, if_pos hk, if_pos rfl]; simp
 ·rw [if_neg h, if_neg (fun e => h e.symm)]

/-- the vertices are merged, so far -/
structure Mg (vx : List Int) (n k : Nat) (vs to : List Int) : Prop where
 tl : to.length = n
 vl : vs.length ≤ k
 tr : ∀ v, v < k → ∃ a : Nat, to[v]? = some (a : Int) ∧ a < vs.length
 ws : ∀ a, a < vs.length → vs[a]? = some (sm k fun v => if tt to v = a then vw vx v else 0)
 sj : ∀ a, a < vs.length → ∃ v, v < k ∧ tt to v = a

theorem merge_ok {n : Nat} {m vx : List Int} (hM : Ml n m) (hn : n ≤ 200) (hv : vx.length = n) (hvx : ∀ x, x ∈ vx → Wg x) :
  Ret (loop (dissect_coarsen_l3 m vx) ([], List.replicate n 0, 0)) (fun o => Mg vx n n o.1 o.2) := by
 have hml := hM.len
 have hvw : ∀ v, v < n → vx[v]? = some (vw vx v) ∧ 1 ≤ vw vx v ∧ vw vx v ≤ 1099511627776 := by
  intro v hvn
  obtain ⟨x, hx⟩ : ∃ x, vx[v]? = some x := ⟨vx[v]'(by omega), by simp [show v < vx.length by omega]⟩
  have := hvx x (mem_get hx)
  rw [vw_get hx]
  exact ⟨hx, this.1, this.2⟩
 refine ret_loop n (fun k (t : List Int × List Int × Int) => t.2.2 = k ∧ Mg vx n k t.1 t.2.1) ⟨rfl, by simp, by simp, fun v h => by omega, fun a h => by simp at h, fun a h => by simp at h⟩ ?_
 rintro k ⟨vs, to, i⟩ hk ⟨rfl, hI⟩
 simp only at hI
 obtain ⟨h1, h2, h3, h4, h5⟩ := hI
 unfold dissect_coarsen_l3 dissect_coarsen_j50
 by_cases hkn : k < n
 ·obtain ⟨u, hu⟩ : ∃ u, m[k]? = some u := ⟨m[k]'(by omega), by simp [show k < m.length by omega]⟩
  obtain ⟨hur, _⟩ := hM.mate k u hu
  obtain ⟨hx1, hx2, hx3⟩ := hvw k hkn
  have e1 : getI m (k : Int) = some u := hu
  have e5 : (k : Int) < (m.length : Int) := by omega
  have hw : wa .i64 (k : Int) 1 = ((k + 1 : Nat) : Int) := wa1 (by omega)
  have ex : getI vx (k : Int) = some (vw vx k) := hx1
  have hb : ∀ a, 0 ≤ sm k (fun v => if tt to v = a then vw vx v else 0) ∧ sm k (fun v => if tt to v = a then vw vx v else 0) ≤ k * 1099511627776 := by
   intro a
   refine ⟨sm_nonneg fun v hv => ?_, sm_bound fun v hv => ?_⟩
   ·have := hvw v (by omega); split <;> omega
   ·have := hvw v (by omega); split <;> omega
  have hbk : (k : Int) * 1099511627776 ≤ 200 * 1099511627776 := by omega
  have sm_eq : ∀ (a b : Nat), sm (k + 1) (fun v => if tt (to.set k (a : Int)) v = b then vw vx v else 0) = sm k (fun v => if tt to v = b then vw vx v else 0) + if a = b then vw vx k else 0 := by
   intro a b
   have e0 : tt (to.set k (a : Int)) k = a := by rw [tt_set (by omega), if_pos rfl]
   have e1 : sm k (fun v => if tt (to.set k (a : Int)) v = b then vw vx v else 0) = sm k (fun v => if tt to v = b then vw vx v else 0) := by
    refine sm_congr fun v hv => ?_
    have : tt (to.set k (a : Int)) v = tt to v := by rw [tt_set (by omega), if_neg (by omega)]
    rw [this]
   rw [sm, e1, e0]
  have sj_eq : ∀ (a b : Nat), b < vs.length → ∃ v, v < k + 1 ∧ tt (to.set k (a : Int)) v = b := by
   intro a b hb2
   obtain ⟨v, g1, g2⟩ := h5 b hb2
   exact ⟨v, by omega, by rw [tt_set (by omega), if_neg (by omega)]; exact g2⟩
  have tr_eq : ∀ (a K : Nat), a < K → vs.length ≤ K → ∀ v, v < k + 1 → ∃ b : Nat, (to.set k (a : Int))[v]? = some (b : Int) ∧ b < K := by
   intro a K ha hK v hv
   rw [List.getElem?_set]
   by_cases hvk : k = v
   ·rw [if_pos hvk, if_pos (by omega)]; exact ⟨a, rfl, ha⟩
   ·rw [if_neg hvk]
    obtain ⟨b, g1, g2⟩ := h3 v (by omega)
    exact ⟨b, g1, by omega⟩
  by_cases huk : u < (k : Int)
  ·obtain ⟨u, rfl⟩ := Int.eq_ofNat_of_zero_le hur.1
   obtain ⟨a, ha1, ha2⟩ := h3 u (by omega)
   have e2 : getI to (u : Int) = some (a : Int) := ha1
   have e3 : setI to (k : Int) (a : Int) = some (to.set k (a : Int)) := setI_lt (by omega)
   have e4 : getI (to.set k (a : Int)) (k : Int) = some (a : Int) := by rw [getI_cast, List.getElem?_set, if_pos rfl, if_pos (by omega)]
   have hb' := hb a
   have e6 : getI vs (a : Int) = some (sm k fun v => if tt to v = a then vw vx v else 0) := h4 a ha2
   have hw2 : wa .i64 (sm k fun v => if tt to v = a then vw vx v else 0) (vw vx k) = (sm k fun v => if tt to v = a then vw vx v else 0) + vw vx k := wa_i (by omega) (by omega)
   have e7 : setI vs (a : Int) ((sm k fun v => if tt to v = a then vw vx v else 0) + vw vx k) = some (vs.set a ((sm k fun v => if tt to v = a then vw vx v else 0) + vw vx k)) := setI_lt ha2
   simp only [ret_bind, ret_if, e5, huk, ret_of e1, ret_of e2, ret_of e3, ret_of e4, ret_of e6, ret_of ex, hw2, ret_of e7, ret_some, vq_l, vq_r, true_implies, not_true_eq_false, false_implies, and_true, hw]
   refine ⟨by omega, trivial, by simp [h1], by simp; omega, by simpa using tr_eq a vs.length ha2 (Nat.le_refl _), fun b hb2 => ?_, fun b hb2 => sj_eq a b (by simpa using hb2)⟩
   simp only [List.length_set] at hb2
   rw [sm_eq, List.getElem?_set]
   by_cases hab : a = b
   ·subst hab; rw [if_pos rfl, if_pos ha2, if_pos rfl]
   ·rw [if_neg hab, if_neg hab, h4 b hb2, Int.add_zero]
  ·have e3 : setI to (k : Int) (vs.length : Int) = some (to.set k (vs.length : Int)) := setI_lt (by omega)
   have e4 : app vs [vw vx k] = some (vs ++ [vw vx k]) := app_small (by rw [List.length_singleton]; omega)
   simp only [ret_bind, ret_if, e5, huk, ret_of e1, ret_of e3, ret_of ex, ret_of e4, ret_some, vq_l, vq_r, true_implies, not_true_eq_false, not_false_eq_true, false_implies, and_true, true_and, hw]
   refine ⟨by omega, by simp [h1], by simp; omega, ?_, fun b hb2 => ?_, fun b hb2 => ?_⟩
   ·have := tr_eq vs.length (vs.length + 1) (by omega) (by omega)
    simpa using this
   ·simp only [List.length_append, List.length_singleton] at hb2
    rw [sm_eq]
    by_cases hbl : b < vs.length
    ·rw [List.getElem?_append_left hbl, h4 b hbl, if_neg (by omega), Int.add_zero]
    ·have : b = vs.length := by omega
     subst this
     rw [List.getElem?_append_right (Nat.le_refl _), if_pos rfl, sm_zero (fun v hv => by
      obtain ⟨b, g1, g2⟩ := h3 v hv
      rw [if_neg]
      rw [tt_get g1]; omega)]
     simp
   ·simp only [List.length_append, List.length_singleton] at hb2
    by_cases hbl : b < vs.length
    ·exact sj_eq vs.length b hbl
    ·exact ⟨k, by omega, by rw [tt_set (by omega), if_pos rfl]; omega⟩
 ·have e5 : ¬ (k : Int) < (m.length : Int) := by omega
  have : k = n := by omega
  subst this
  simp only [ret_bind, ret_if, ret_get, ret_set, ret_app, ret_mkL, ret_sli, ret_wr, ret_wq, ret_some, vq_l, vq_r, Int.toNat_natCast, if_true, if_false, obs, decide_false, decide_true, Bool.false_eq_true, Bool.not_true, Bool.not_false, not_true_eq_false, not_false_eq_true, true_implies, false_implies, reduceCtorEq, true_and, and_true, false_and, or_false, false_or, implies_true, e5]
  exact ⟨h1, h2, h3, h4, h5⟩

/-! ### tables of sums -/
def Tv (X : List (List Int)) (K : Nat) (f : Nat → Nat → Int) : Prop := X.length = K ∧ ∀ a, a < K → ∃ r, X[a]? = some r ∧ r.length = K ∧ ∀ b, b < K → r[b]? = some (f a b)
theorem Tv.congr {X : List (List Int)} {K : Nat} {f g : Nat → Nat → Int} (h : Tv X K f) (he : ∀ a b, a < K → b < K → f a b = g a b) : Tv X K g :=
 ⟨h.1, fun a ha => by obtain ⟨r, h1, h2, h3⟩ := h.2 a ha; exact ⟨r, h1, h2, fun b hb => by rw [h3 b hb, he a b ha hb]⟩⟩
theorem Tv.put {X : List (List Int)} {K : Nat} {f : Nat → Nat → Int} (h : Tv X K f) {a b : Nat} (ha : a < K) (hb : b < K) {r : List Int} (hr : X[a]? = some r) (z : Int) : Tv (X.set a (r.set b z)) K (fun c d => if c = a ∧ d = b then z else f c d) := by
 refine ⟨by simp [h.1], fun c hc => ?_⟩
 obtain ⟨r', h1, h2, h3⟩ := h.2 c hc
 have hXl := h.1
 by_cases hca : a = c
 ·subst hca
  rw [hr] at h1
  obtain rfl := Option.some.inj h1
  refine ⟨r.set b z, by rw [List.getElem?_set, if_pos rfl, if_pos (by omega)], by simp [h2], fun d hd => ?_⟩
  show (r.set b z)[d]? = some (if a = a ∧ d = b then z else f a d)
  rw [List.getElem?_set]
  by_cases hbd : b = d
  ·subst hbd; rw [if_pos rfl, if_pos (by omega), if_pos ⟨rfl, rfl⟩]
  ·rw [if_neg hbd, if_neg (fun hh => hbd hh.2.symm)]; exact h3 d hd
 ·refine ⟨r', by rw [List.getElem?_set, if_neg hca]; exact h1, h2, fun d hd => ?_⟩
  show r'[d]? = some (if c = a ∧ d = b then z else f c d)
  rw [if_neg (fun hh => hca hh.1.symm)]; exact h3 d hd

theorem zeros_ok {K : Nat} (hK : K ≤ 1000) {vs : List Int} (hv : vs.length = K) : Ret (loop (dissect_coarsen_l4 (List.replicate K []) vs) (List.replicate K [], 0)) (fun X => Tv X K (fun _ _ => 0)) := by
 refine ret_loop K (fun k (t : List (List Int) × Int) => t.2 = k ∧ t.1.length = K ∧ ∀ a, a < k → t.1[a]? = some (List.replicate K 0)) ⟨rfl, by simp, fun a h => by omega⟩ ?_
 rintro k ⟨X, i⟩ hk ⟨rfl, h1, h2⟩
 simp only at h1 h2
 unfold dissect_coarsen_l4
 have hrl : (List.replicate K ([] : List Int)).length = K := by simp
 by_cases hkn : k < K
 ·have hw : wa .i64 (k : Int) 1 = ((k + 1 : Nat) : Int) := wa1 (by omega)
  have e5 : (k : Int) < (K : Int) := by omega
  simp only [ret_bind, ret_if, ret_get, ret_set, ret_app, ret_mkL, ret_sli, ret_wr, ret_wq, ret_some, vq_l, vq_r, Int.toNat_natCast, if_true, if_false, obs, decide_false, decide_true, Bool.false_eq_true, Bool.not_true, Bool.not_false, not_true_eq_false, not_false_eq_true, true_implies, false_implies, reduceCtorEq, hrl, e5, hv, hw]
  refine ⟨by omega, by omega, by omega, by omega, hkn, trivial, by simp [h1], fun u hu => ?_⟩
  rw [List.getElem?_set]
  by_cases hku : k = u
  ·rw [if_pos hku, if_pos (by omega)]
  ·rw [if_neg hku]; exact h2 u (by omega)
 ·have e5 : ¬ (k : Int) < (K : Int) := by omega
  simp only [ret_bind, ret_if, ret_get, ret_set, ret_app, ret_mkL, ret_sli, ret_wr, ret_wq, ret_some, vq_l, vq_r, Int.toNat_natCast, if_true, if_false, obs, decide_false, decide_true, Bool.false_eq_true, Bool.not_true, Bool.not_false, not_true_eq_false, not_false_eq_true, true_implies, false_implies, reduceCtorEq, hrl, e5]
  exact ⟨h1, fun a ha => ⟨_, h2 a (by omega), by simp, fun b hb => by simp [hb]⟩⟩

/-- one row of weights is added -/
def rowS (W : Nat → Nat → Int) (to : List Int) (v : Nat) (l : List Nat) (a b : Nat) : Int := (l.map fun u => if tt to v = a ∧ tt to u = b then W v u else 0).sum
def tabS (n : Nat) (W : Nat → Nat → Int) (to : List Int) (k a b : Nat) : Int := sm k fun v => sm n fun u => if tt to v = a ∧ tt to u = b then W v u else 0

theorem row_add {n : Nat} (hn : n ≤ 200) {W : Nat → Nat → Int} {B : Int} (hT : Tw n W B) (hB : 0 ≤ B ∧ B ≤ 1099511627776) {to : List Int} {K v : Nat} (hv : v < n) (hto : ∀ u, u < n → ∃ a : Nat, to[u]? = some (a : Int) ∧ a < K) {X : List (List Int)} {f : Nat → Nat → Int} (hX : Tv X K f) {c : Nat} (hc : c ≤ 50000) (hf : ∀ a b, a < K → b < K → 0 ≤ f a b ∧ f a b ≤ c * B) :
  Ret (loop (dissect_coarsen_l49 ((nbs n (W v)).map Int.ofNat) to (v : Int) (ced n W)) (X, 0)) (fun X' => Tv X' K (fun a b => f a b + rowS W to v (nbs n (W v)) a b)) := by
 have hnl := nbs_len (n := n) (f := W v)
 have hll : ((nbs n (W v)).map Int.ofNat).length = (nbs n (W v)).length := by simp
 refine (ret_loop (nbs n (W v)).length (fun k (t : List (List Int) × Int) => t.2 = k ∧ Tv t.1 K (fun a b => f a b + rowS W to v ((nbs n (W v)).take k) a b) ∧ ∀ a b, a < K → b < K → 0 ≤ rowS W to v ((nbs n (W v)).take k) a b ∧ rowS W to v ((nbs n (W v)).take k) a b ≤ k * B) ⟨rfl, hX.congr fun a b _ _ => by simp [rowS], fun a b _ _ => by simp [rowS]⟩ ?_).mono (fun X' h => h)
 rintro k ⟨X, i⟩ hk ⟨rfl, h1, h2⟩
 simp only at h1
 unfold dissect_coarsen_l49
 by_cases hkl : k < (nbs n (W v)).length
 ·obtain ⟨u, hu⟩ : ∃ u, (nbs n (W v))[k]? = some u := ⟨(nbs n (W v))[k], by simp [hkl]⟩
  obtain ⟨hun, hpos⟩ := nbs_mem.1 (List.mem_of_getElem? hu)
  have hwr := hT.nn v u hv hun
  obtain ⟨a, ha1, ha2⟩ := hto v hv
  obtain ⟨b, hb1, hb2⟩ := hto u hun
  have hta : tt to v = a := by rw [tt_get ha1]; simp
  have htb : tt to u = b := by rw [tt_get hb1]; simp
  obtain ⟨r, hr1, hr2, hr3⟩ := h1.2 a ha2
  have hXl := h1.1
  have e0 : getI ((nbs n (W v)).map Int.ofNat) (k : Int) = some (u : Int) := by rw [getI_cast, List.getElem?_map, hu]; rfl
  have e1 : getI to (v : Int) = some (a : Int) := ha1
  have e2 : getI X (a : Int) = some r := hr1
  have e3 : getI to (u : Int) = some (b : Int) := hb1
  have e4 : getI r (b : Int) = some (f a b + rowS W to v ((nbs n (W v)).take k) a b) := hr3 b hb2
  have e6 : getI (ced n W) (v : Int) = some ((nbs n (W v)).map (W v)) := ced_get hv
  have e7 : getI ((nbs n (W v)).map (W v)) (k : Int) = some (W v u) := by rw [getI_cast, List.getElem?_map, hu]; rfl
  have e5 : (k : Int) < (((nbs n (W v)).map Int.ofNat).length : Int) := by omega
  have hw : wa .i64 (k : Int) 1 = ((k + 1 : Nat) : Int) := wa1 (by omega)
  have g1 := hf a b ha2 hb2
  have g2 := h2 a b ha2 hb2
  have gc : (c : Int) * B ≤ 50000 * 1099511627776 := Int.le_trans (Int.mul_le_mul_of_nonneg_right (show (c : Int) ≤ 50000 by omega) hB.1) (Int.mul_le_mul_of_nonneg_left hB.2 (by omega))
  have gk : (k : Int) * B ≤ 200 * 1099511627776 := Int.le_trans (Int.mul_le_mul_of_nonneg_right (show (k : Int) ≤ 200 by omega) hB.1) (Int.mul_le_mul_of_nonneg_left hB.2 (by omega))
  have hw2 : wa .i64 (f a b + rowS W to v ((nbs n (W v)).take k) a b) (W v u) = f a b + rowS W to v ((nbs n (W v)).take k) a b + W v u := wa_i (by omega) (by omega)
  have e8 : setI r (b : Int) (f a b + rowS W to v ((nbs n (W v)).take k) a b + W v u) = some (r.set b (f a b + rowS W to v ((nbs n (W v)).take k) a b + W v u)) := setI_lt (by omega)
  have e9 : ∀ z : List Int, setI X (a : Int) z = some (X.set a z) := fun z => setI_lt (by omega)
  have hrs : ∀ c d, rowS W to v ((nbs n (W v)).take (k + 1)) c d = rowS W to v ((nbs n (W v)).take k) c d + if a = c ∧ b = d then W v u else 0 := by
   intro c d
   unfold rowS
   rw [tks hu, List.map_append, List.sum_append]
   simp [hta, htb]
  simp only [ret_bind, ret_if, e5, ret_of e0, ret_of e1, ret_of e2, ret_of e3, ret_of e4, ret_of e6, ret_of e7, hw2, ret_of e8, ret_of (e9 _), ret_some, vq_l, vq_r, true_implies, not_true_eq_false, false_implies, and_true, hw]
  refine ⟨hkl, trivial, (h1.put ha2 hb2 hr1 _).congr fun c d hc hd => ?_, fun c d hc hd => ?_⟩
  ·rw [hrs]
   by_cases hcd : c = a ∧ d = b
   ·obtain ⟨rfl, rfl⟩ := hcd
    rw [if_pos ⟨rfl, rfl⟩, if_pos ⟨rfl, rfl⟩]; omega
   ·rw [if_neg hcd, if_neg (fun hh => hcd ⟨hh.1.symm, hh.2.symm⟩)]; omega
  ·rw [hrs]
   have := h2 c d hc hd
   have hk1 : ((k + 1 : Nat) : Int) * B = k * B + B := by rw [Int.natCast_add, Int.add_mul]; omega
   rw [hk1]
   split <;> omega
 ·have e5 : ¬ (k : Int) < (((nbs n (W v)).map Int.ofNat).length : Int) := by omega
  simp only [ret_bind, ret_if, ret_get, ret_set, ret_app, ret_mkL, ret_sli, ret_wr, ret_wq, ret_some, vq_l, vq_r, Int.toNat_natCast, if_true, if_false, obs, decide_false, decide_true, Bool.false_eq_true, Bool.not_true, Bool.not_false, not_true_eq_false, not_false_eq_true, true_implies, false_implies, reduceCtorEq, true_and, and_true, false_and, or_false, false_or, implies_true, e5]
  rw [take_all (by omega)] at h1
  exact h1

theorem rowS_all {n : Nat} {W : Nat → Nat → Int} {B : Int} (hT : Tw n W B) {to : List Int} {v : Nat} (hv : v < n) (a b : Nat) : rowS W to v (nbs n (W v)) a b = sm n fun u => if tt to v = a ∧ tt to u = b then W v u else 0 := by
 unfold rowS
 rw [nbs_sum]
 refine sm_congr fun u hu => ?_
 by_cases h : 0 < W v u
 ·rw [if_pos h]
 ·have := hT.nn v u hv hu
  rw [if_neg h]; split <;> omega

theorem table_ok {n : Nat} (hn : n ≤ 200) {W : Nat → Nat → Int} {B : Int} (hT : Tw n W B) (hB : 0 ≤ B ∧ B ≤ 1099511627776) {to : List Int} {K : Nat} (hto : ∀ u, u < n → ∃ a : Nat, to[u]? = some (a : Int) ∧ a < K) {X : List (List Int)} (hX : Tv X K fun _ _ => 0) :
  Ret (loop (dissect_coarsen_l7 (cadj n W) to (ced n W)) (X, 0)) (fun X' => Tv X' K (tabS n W to n) ∧ ∀ a b, 0 ≤ tabS n W to n a b ∧ tabS n W to n a b ≤ (n * n : Nat) * B) := by
 have hb : ∀ k, k ≤ n → ∀ a b, 0 ≤ tabS n W to k a b ∧ tabS n W to k a b ≤ (k * n : Nat) * B := by
  intro k hk a b
  unfold tabS
  refine ⟨sm_nonneg fun v hv => sm_nonneg fun u hu => ?_, ?_⟩
  ·have := hT.nn v u (by omega) hu; split <;> omega
  ·have : sm k (fun v => sm n fun u => if tt to v = a ∧ tt to u = b then W v u else 0) ≤ k * (n * B) := sm_bound fun v hv => sm_bound fun u hu => by
    have := hT.nn v u (by omega) hu; split <;> omega
   rw [Int.natCast_mul, Int.mul_assoc]; exact this
 refine (ret_loop n (fun k (t : List (List Int) × Int) => t.2 = k ∧ Tv t.1 K (tabS n W to k)) ⟨rfl, hX.congr fun a b _ _ => rfl⟩ ?_).mono (fun X' h => ⟨h, hb n (Nat.le_refl _)⟩)
 rintro k ⟨X, i⟩ hk ⟨rfl, h1⟩
 simp only at h1
 unfold dissect_coarsen_l7
 have hcl : (cadj n W).length = n := cadj_len
 by_cases hkn : k < n
 ·have e1 : getI (cadj n W) (k : Int) = some ((nbs n (W k)).map Int.ofNat) := cadj_get hkn
  have e5 : (k : Int) < ((cadj n W).length : Int) := by omega
  have hw : wa .i64 (k : Int) 1 = ((k + 1 : Nat) : Int) := wa1 (by omega)
  simp only [ret_bind, ret_if, e5, ret_of e1, true_implies, not_true_eq_false, false_implies, and_true]
  have hkn2 : k * n ≤ 200 * 200 := Nat.mul_le_mul (by omega) hn
  refine ret_call (row_add hn hT hB hkn hto h1 (c := k * n) (by omega) (fun a b _ _ => hb k hk a b)) ?_
  intro X' hX'
  rw [ret_some, vq_l]
  refine ⟨hkn, hw, hX'.congr fun a b _ _ => ?_⟩
  rw [rowS_all hT hkn]; rfl
 ·have e5 : ¬ (k : Int) < ((cadj n W).length : Int) := by omega
  have : k = n := by omega
  subst this
  simp only [ret_bind, ret_if, ret_get, ret_set, ret_app, ret_mkL, ret_sli, ret_wr, ret_wq, ret_some, vq_l, vq_r, Int.toNat_natCast, if_true, if_false, obs, decide_false, decide_true, Bool.false_eq_true, Bool.not_true, Bool.not_false, not_true_eq_false, not_false_eq_true, true_implies, false_implies, reduceCtorEq, true_and, and_true, false_and, or_false, false_or, implies_true, e5]
  exact h1

/-- the coarse weights -/
def cw (f : Nat → Nat → Int) (a b : Nat) : Int := if a = b then 0 else f a b

theorem rows_ok {K : Nat} (hK : K ≤ 200) {a : Nat} (ha : a < K) {r : List Int} {f : Nat → Nat → Int} (hr : r.length = K) (hr2 : ∀ b, b < K → r[b]? = some (f a b)) {A E : List (List Int)} (hA : A.length = K) (hE : E.length = K) (hA1 : A[a]? = some []) (hE1 : E[a]? = some []) :
  loop (dissect_coarsen_l44 r (a : Int)) (A, E, 0) = some (A.set a ((nbs K (cw f a)).map Int.ofNat), E.set a ((nbs K (cw f a)).map (cw f a))) := by
 have hA0 : A.set a [] = A := by
  apply List.ext_getElem?; intro i; rw [List.getElem?_set]
  by_cases h : a = i
  ·subst h; rw [if_pos rfl, if_pos (by omega), hA1]
  ·rw [if_neg h]
 have hE0 : E.set a [] = E := by
  apply List.ext_getElem?; intro i; rw [List.getElem?_set]
  by_cases h : a = i
  ·subst h; rw [if_pos rfl, if_pos (by omega), hE1]
  ·rw [if_neg h]
 refine Ret.eq ?_
 refine ret_loop K (fun k (t : List (List Int) × List (List Int) × Int) => t = (A.set a ((nbs k (cw f a)).map Int.ofNat), E.set a ((nbs k (cw f a)).map (cw f a)), (k : Int))) (by simp [nbs, hA0, hE0]) ?_
 rintro k _ hk rfl
 unfold dissect_coarsen_l44 dissect_coarsen_j47
 by_cases hkn : k < K
 ·have e1 : getI r (k : Int) = some (f a k) := hr2 k hkn
  have e5 : (k : Int) < (r.length : Int) := by omega
  have hw : wa .i64 (k : Int) 1 = ((k + 1 : Nat) : Int) := wa1 (by omega)
  have hnl := nbs_len (n := k) (f := cw f a)
  by_cases hc : a ≠ k ∧ 0 < f a k
  ·have e6 : (!(decide ((a : Int) = (k : Int))) && decide ((0 : Int) < f a k)) = true := by simp; omega
   have hcw : cw f a k = f a k := by unfold cw; rw [if_neg hc.1]
   have hns : nbs (k + 1) (cw f a) = nbs k (cw f a) ++ [k] := by rw [nbs_succ, if_pos (by rw [hcw]; exact hc.2)]
   have g1 : ∀ z : List Int, getI (A.set a z) (a : Int) = some z := fun z => by rw [getI_cast, List.getElem?_set, if_pos rfl, if_pos (by omega)]
   have g2 : ∀ z : List Int, getI (E.set a z) (a : Int) = some z := fun z => by rw [getI_cast, List.getElem?_set, if_pos rfl, if_pos (by omega)]
   have g3 : ∀ z z' : List Int, setI (A.set a z) (a : Int) z' = some (A.set a z') := fun z z' => by rw [setI_lt (by simp; omega), List.set_set]
   have g4 : ∀ z z' : List Int, setI (E.set a z) (a : Int) z' = some (E.set a z') := fun z z' => by rw [setI_lt (by simp; omega), List.set_set]
   simp only [ret_bind, ret_if, e5, ret_of e1, e6, ret_of (g1 _), ret_of (g2 _), ret_of (g3 _ _), ret_of (g4 _ _), ret_app, ret_some, vq_l, vq_r, true_implies, not_true_eq_false, false_implies, and_true, hw, List.length_map, List.length_singleton]
   refine ⟨by omega, by omega, hkn, ?_⟩
   rw [hns, List.map_append, List.map_append, ← hcw]; rfl
  ·have e6 : (!(decide ((a : Int) = (k : Int))) && decide ((0 : Int) < f a k)) = false := by
    rw [← Bool.not_eq_true]
    simp only [Bool.and_eq_true, Bool.not_eq_true', decide_eq_false_iff_not, decide_eq_true_eq]
    intro hh; exact hc ⟨by omega, hh.2⟩
   have hns : nbs (k + 1) (cw f a) = nbs k (cw f a) := by
    rw [nbs_succ, if_neg]
    unfold cw
    intro hh
    by_cases hak : a = k
    ·rw [if_pos hak] at hh; omega
    ·rw [if_neg hak] at hh; exact hc ⟨hak, hh⟩
   simp only [ret_bind, ret_if, ret_get, ret_set, ret_app, ret_mkL, ret_sli, ret_wr, ret_wq, ret_some, vq_l, vq_r, Int.toNat_natCast, if_true, if_false, obs, decide_false, decide_true, Bool.false_eq_true, Bool.not_true, Bool.not_false, not_true_eq_false, not_false_eq_true, true_implies, false_implies, reduceCtorEq, true_and, and_true, false_and, or_false, false_or, implies_true, e5, e1, e6, hw]
   exact ⟨hkn, by rw [hns]⟩
 ·have e5 : ¬ (k : Int) < (r.length : Int) := by omega
  have : k = K := by omega
  subst this
  simp only [ret_bind, ret_if, ret_get, ret_set, ret_app, ret_mkL, ret_sli, ret_wr, ret_wq, ret_some, vq_l, vq_r, Int.toNat_natCast, if_true, if_false, obs, decide_false, decide_true, Bool.false_eq_true, Bool.not_true, Bool.not_false, not_true_eq_false, not_false_eq_true, true_implies, false_implies, reduceCtorEq, true_and, and_true, false_and, or_false, false_or, implies_true, e5]
end Pd
/- Coarsening and cuts. -/
set_option linter.unusedSimpArgs false
set_option linter.unusedVariables false
namespace Pd
open Pl Sx Go M Vc

def OkE (K : Nat) (g : Nat → Nat → Int) : Prop := ∀ a b, a < K → b < K → g a b ≤ 1099511627776
theorem wg_row {K : Nat} {g : Nat → Int} : (∀ x, x ∈ (nbs K g).map g → Wg x) ↔ ∀ b, b < K → g b ≤ 1099511627776 := by
 constructor
 ·intro h b hb
  by_cases hp : 0 < g b
  ·exact (h (g b) (List.mem_map.2 ⟨b, nbs_mem.2 ⟨hb, hp⟩, rfl⟩)).2
  ·omega
 ·intro h x hx
  obtain ⟨b, hb, rfl⟩ := List.mem_map.1 hx
  obtain ⟨h1, h2⟩ := nbs_mem.1 hb
  exact ⟨by omega, h b h1⟩

theorem build_rows {K : Nat} (hK : K ≤ 200) {X : List (List Int)} {f : Nat → Nat → Int} (hX : Tv X K f) :
  Ret (loop (dissect_coarsen_l35 X) (List.replicate K [], List.replicate K [], 0)) (fun o => (o = .inl (cadj K (cw f), ced K (cw f)) ∧ OkE K (cw f)) ∨ (o = .inr () ∧ ¬ OkE K (cw f))) := by
 have hXl := hX.1
 refine ret_loop K (fun k (t : List (List Int) × List (List Int) × Int) => t.2.2 = k ∧ t.1.length = K ∧ t.2.1.length = K ∧ (∀ a, a < K → t.1[a]? = some (if a < k then (nbs K (cw f a)).map Int.ofNat else []) ∧ t.2.1[a]? = some (if a < k then (nbs K (cw f a)).map (cw f a) else [])) ∧ ∀ a b, a < k → b < K → cw f a b ≤ 1099511627776) ⟨rfl, by simp, by simp, fun a ha => by simp [ha], fun a b ha => by omega⟩ ?_
 rintro k ⟨A, E, i⟩ hk ⟨rfl, h1, h2, h3, h4⟩
 simp only at h1 h2 h3
 unfold dissect_coarsen_l35
 by_cases hkn : k < K
 ·obtain ⟨r, hr1, hr2, hr3⟩ := hX.2 k hkn
  have e1 : getI X (k : Int) = some r := hr1
  have e5 : (k : Int) < (X.length : Int) := by omega
  have hw : wa .i64 (k : Int) 1 = ((k + 1 : Nat) : Int) := wa1 (by omega)
  obtain ⟨a1, a2⟩ := h3 k hkn
  rw [if_neg (by omega)] at a1 a2
  have e2 := rows_ok hK hkn hr2 hr3 h1 h2 a1 a2
  have e3 : getI (E.set k ((nbs K (cw f k)).map (cw f k))) (k : Int) = some ((nbs K (cw f k)).map (cw f k)) := by rw [getI_cast, List.getElem?_set, if_pos rfl, if_pos (by omega)]
  have hnl := nbs_len (n := K) (f := cw f k)
  obtain ⟨b, b1, b2⟩ := weights_ok (l := (nbs K (cw f k)).map (cw f k)) (by rw [List.length_map]; omega)
  rw [wg_row] at b2
  cases b with
  | true =>
   simp only [ret_bind, ret_if, e5, ret_of e1, ret_of e2, ret_of e3, ret_of b1, ret_some, vq_l, vq_r, true_implies, not_true_eq_false, false_implies, and_true, hw]
   refine ⟨hkn, trivial, by simp [h1], by simp [h2], fun a ha => ?_, fun a c ha hc => ?_⟩
   ·rw [List.getElem?_set, List.getElem?_set]
    by_cases hka : k = a
    ·subst hka; rw [if_pos rfl, if_pos (by omega), if_pos rfl, if_pos (by omega), if_pos (by omega), if_pos (by omega)]; exact ⟨rfl, rfl⟩
    ·rw [if_neg hka, if_neg hka, (h3 a ha).1, (h3 a ha).2]
     by_cases hak : a < k
     ·rw [if_pos hak, if_pos hak, if_pos (show a < k + 1 by omega), if_pos (show a < k + 1 by omega)]; exact ⟨rfl, rfl⟩
     ·rw [if_neg hak, if_neg hak, if_neg (show ¬ a < k + 1 by omega), if_neg (show ¬ a < k + 1 by omega)]; exact ⟨rfl, rfl⟩
   ·by_cases hak : a < k
    ·exact h4 a c hak hc
    ·have : a = k := by omega
     subst this
     exact b2.1 rfl c hc
  | false =>
   simp only [ret_bind, ret_if, e5, ret_of e1, ret_of e2, ret_of e3, ret_of b1, ret_some, vq_l, vq_r, true_implies, not_true_eq_false, false_implies, and_true, Bool.false_eq_true, not_false_eq_true, true_and]
   refine .inr fun h => ?_
   have := b2.2 (fun c hc => h k c hkn hc)
   cases this
 ·have e5 : ¬ (k : Int) < (X.length : Int) := by omega
  simp only [ret_if, e5, false_implies, not_false_eq_true, true_implies, true_and, ret_some, vq_r]
  refine .inl ⟨?_, fun a b ha hb => h4 a b (by omega) hb⟩
  congr 2
  ·apply List.ext_getElem?
   intro a
   by_cases ha : a < K
   ·rw [(h3 a ha).1, cadj_get ha, if_pos (by omega)]
   ·rw [List.getElem?_eq_none (by omega), List.getElem?_eq_none (by rw [cadj_len]; omega)]
  ·apply List.ext_getElem?
   intro a
   by_cases ha : a < K
   ·rw [(h3 a ha).2, ced_get ha, if_pos (by omega)]
   ·rw [List.getElem?_eq_none (by omega), List.getElem?_eq_none (by rw [ced_len]; omega)]

/-- what coarsening comes to -/
structure Co (n : Nat) (W : Nat → Nat → Int) (vx vs to : List Int) (B : Int) : Prop where
 mg : Mg vx n n vs to
 tb : ∀ a b, 0 ≤ tabS n W to n a b ∧ tabS n W to n a b ≤ (n * n : Nat) * B

open Classical in
theorem coarsen_ok {n : Nat} (hn : n ≤ 200) {W : Nat → Nat → Int} {B : Int} (hT : Tw n W B) (hB : 0 ≤ B ∧ B ≤ 1099511627776) {vx m : List Int} (hv : vx.length = n) (hvx : ∀ x, x ∈ vx → Wg x) (hM : Ml n m) :
  ∃ vs to, Co n W vx vs to B ∧ dissect_coarsen (cadj n W) vx (ced n W) m = some (if OkE vs.length (cw (tabS n W to n)) ∧ (∀ x, x ∈ vs → Wg x) then (cadj vs.length (cw (tabS n W to n)), vs, ced vs.length (cw (tabS n W to n)), to, true) else ([], [], [], [], false)) := by
 have hml := hM.len
 obtain ⟨⟨vs, to⟩, g1, hg⟩ := merge_ok hM hn hv hvx
 simp only at hg
 have hvl := hg.vl
 obtain ⟨X, x1, x2⟩ := zeros_ok (K := vs.length) (by omega) (vs := vs) rfl
 obtain ⟨Y, y1, y2, y3⟩ := table_ok hn hT hB (K := vs.length) hg.tr x2
 obtain ⟨o, o1, o2⟩ := build_rows (K := vs.length) (by omega) y2
 refine ⟨vs, to, ⟨hg, y3⟩, ?_⟩
 unfold dissect_coarsen
 rw [hml, bindS (mkL_nat 0 n (by omega)), bindS g1]
 simp only
 rw [bindS (mkL_nat ([] : List Int) vs.length (by omega)), bindS x1, bindS y1, bindS (mkL_nat ([] : List Int) vs.length (by omega)), bindS (mkL_nat ([] : List Int) vs.length (by omega)), bindS o1]
 obtain ⟨b, b1, b2⟩ := weights_ok (l := vs) (by omega)
 rcases o2 with ⟨rfl, h⟩ | ⟨rfl, h⟩
 ·simp only
  rw [bindS b1]
  cases b with
  | true => rw [if_pos rfl, if_pos ⟨h, b2.1 rfl⟩]
  | false =>
   rw [if_neg (by simp), if_neg]
   intro hh
   have := b2.2 hh.2
   cases this
 ·simp only
  rw [if_neg (fun hh => h hh.1)]

theorem cw_tw {n : Nat} {W : Nat → Nat → Int} {B : Int} (hT : Tw n W B) {to : List Int} {K : Nat} {B' : Int} (hb : ∀ a b, a < K → b < K → 0 ≤ tabS n W to n a b ∧ cw (tabS n W to n) a b ≤ B') (hB' : 0 ≤ B') : Tw K (cw (tabS n W to n)) B' := by
 refine ⟨fun a b ha hb' => ?_, fun a b ha hb' => ?_, fun a ha => by unfold cw; rw [if_pos rfl]⟩
 ·refine ⟨?_, (hb a b ha hb').2⟩
  unfold cw
  split
  ·omega
  ·exact (hb a b ha hb').1
 ·unfold cw
  by_cases h : a = b
  ·rw [if_pos h, if_pos h.symm]
  ·rw [if_neg h, if_neg (fun e => h e.symm)]
   unfold tabS
   rw [sm_swap]
   refine sm_congr fun u hu => sm_congr fun v hv => ?_
   rw [hT.sym v u hv hu]
   by_cases h1 : tt to v = a ∧ tt to u = b
   ·rw [if_pos h1, if_pos ⟨h1.2, h1.1⟩]
   ·rw [if_neg h1, if_neg (fun e => h1 ⟨e.2, e.1⟩)]

/-! ### cuts -/
/-- the side of v -/
def sd (side : List Int) (v : Nat) : Int := side[v]?.getD 0
theorem sd_get {side : List Int} {v : Nat} {x : Int} (h : side[v]? = some x) : sd side v = x := by unfold sd; rw [h]; rfl
def cut (n : Nat) (W : Nat → Nat → Int) (s : Nat → Int) : Int := sm n fun v => sm n fun u => if u < v then (if s u = s v then 0 else W v u) else 0

def S01 (side : List Int) : Prop := ∀ x, x ∈ side → x = 0 ∨ x = 1
/-- twice the cut -/
theorem cut_twice {n : Nat} {W : Nat → Nat → Int} {B : Int} (hT : Tw n W B) (s : Nat → Int) : 2 * cut n W s = sm n fun v => sm n fun u => if s u = s v then 0 else W v u := by
 rw [sm_half (f := fun v u => if s u = s v then 0 else W v u) (fun i j hi hj => by
  rw [hT.sym i j hi hj]
  by_cases h : s j = s i
  ·rw [if_pos h, if_pos h.symm]
  ·rw [if_neg h, if_neg (fun e => h e.symm)]) (fun i hi => by rw [if_pos rfl])]
 rfl
end Pd
