/- The law of the peripheral vertices over the models. -/
import Derived.Test.YthpeajepbffinaaPsM
import Derived.Test.YthpeajepbffinaaM5
import Derived.Test.YthpeajepbffinaaPdF
import Derived.Test.YthpeajepbffinaaPdG
set_option linter.unusedSimpArgs false
set_option linter.unusedVariables false
namespace Pl
open Sx Go M Vc

theorem levels_cls {adj : List (List Int)} (hG : Gr adj) (hn : adj.length ≤ 12) {v : Nat} (hv : v < adj.length) :
    ∃ out lev seen c, graph_levels adj (v : Int) = some out ∧ BF adj v lev seen out [] ∧ CC adj v c ∧ ∀ x, x ∈ out.flatten ↔ x ∈ c := by
  obtain ⟨out, lev, seen, h1, h2⟩ := levels_ok hG hn hv
  obtain ⟨o, c, k1, k2, k3, k4⟩ := comp_ok hG hn hv
  rw [h1] at k1
  obtain rfl := Option.some.inj k1
  have hfl : out.flatten.length ≤ adj.length := nodup_len _ _ h2.nodup fun x hx => by have := (h2.flat x).1 hx; exact ⟨this.1, this.2.1⟩
  obtain ⟨m, m1, m2, m3⟩ := sort_ok (l := out.flatten) (by omega)
  rw [m1] at k3
  obtain rfl := Option.some.inj k3
  exact ⟨out, lev, seen, m, h1, h2, k4, fun x => m2.mem_iff.symm⟩

def farR (adj : List (List Int)) (out : List (List Int)) : Option Int :=
  (getI out (ws .i64 (out.length : Int) 1)).bind fun x91 =>
  (getI x91 0).bind fun x93 =>
  (loop (graph_Peripheral_l13 x91 adj) (x93, 0)).bind fun x114 => some x114

theorem far_ok {adj : List (List Int)} {out : List (List Int)} (hlen : 0 < out.length) (hl2 : out.length ≤ 1000) (hne : ∀ l, l ∈ out → l ≠ []) (hr : ∀ l, l ∈ out → ∀ x, x ∈ l → 0 ≤ x ∧ x < adj.length) (hsz : ∀ l, l ∈ out → l.length ≤ 1000) : Ret (farR adj out) (fun w => w ∈ out.flatten ∧ 0 ≤ w ∧ w < adj.length) := by
  unfold farR
  have e : ws .i64 (out.length : Int) 1 = ((out.length - 1 : Nat) : Int) := by rw [ws_i (by omega) (by omega)]; omega
  have hk : out.length - 1 < out.length := by omega
  rw [e, bindS (getI_lt hk)]
  have hm := List.getElem_mem hk
  generalize out[out.length - 1] = l at hm
  have hlp := List.length_pos_iff.2 (hne l hm)
  have hll := hsz l hm
  have hg0 : getI l 0 = some l[0] := getI_lt hlp
  rw [bindS hg0]
  simp only [ret_bind, ret_some]
  refine ret_call (P := fun w => w ∈ l) ?_ (fun w hw => ⟨List.mem_flatten.2 ⟨l, hm, hw⟩, hr l hm w hw⟩)
  refine ret_loop l.length (fun k (s : Int × Int) => s.2 = k ∧ s.1 ∈ l) ⟨rfl, List.getElem_mem _⟩ ?_
  rintro k ⟨s, i⟩ hk2 ⟨rfl, hs⟩
  simp only at hs
  have hrs := hr l hm s hs
  unfold graph_Peripheral_l13 graph_Peripheral_j14
  by_cases hkl : k < l.length
  · obtain ⟨x, hx⟩ : ∃ x, l[k]? = some x := ⟨l[k], by simp [hkl]⟩
    have hxr := hr l hm x (mem_get hx)
    have e1 : getI l (k : Int) = some x := hx
    have e5 : (k : Int) < (l.length : Int) := by omega
    have e6 : getI adj x = some (adj[x.toNat]'(by omega)) := getI_of hxr.1 (by simp [show x.toNat < adj.length by omega])
    have e7 : getI adj s = some (adj[s.toNat]'(by omega)) := getI_of hrs.1 (by simp [show s.toNat < adj.length by omega])
    have hw : wa .i64 (k : Int) 1 = ((k + 1 : Nat) : Int) := wa1 (by omega)
    simp only [ret_bind, ret_if, ret_get, ret_set, ret_app, ret_mkL, ret_sli, ret_wr, ret_wq, ret_some, vq_l, vq_r, Int.toNat_natCast, if_true, if_false, obs, decide_false, decide_true, Bool.false_eq_true, Bool.not_true, Bool.not_false, not_true_eq_false, not_false_eq_true, true_implies, false_implies, reduceCtorEq, e1, e5, e6, e7, hw]
    exact ⟨fun _ => ⟨hkl, trivial, mem_get hx⟩, fun _ => ⟨hkl, trivial, hs⟩⟩
  · have e5 : ¬ (k : Int) < (l.length : Int) := by omega
    simp only [ret_bind, ret_if, ret_get, ret_set, ret_app, ret_mkL, ret_sli, ret_wr, ret_wq, ret_some, vq_l, vq_r, Int.toNat_natCast, if_true, if_false, obs, decide_false, decide_true, Bool.false_eq_true, Bool.not_true, Bool.not_false, not_true_eq_false, not_false_eq_true, true_implies, false_implies, reduceCtorEq, e5]
    exact hs

theorem per_step {adj : List (List Int)} {v : Int} {out r : List (List Int)} {w : Int} (h1 : farR adj out = some w) (h2 : graph_levels adj w = some r) :
    graph_Peripheral_l10 adj (v, out) = if (r.length : Int) ≤ (out.length : Int) then some (.inr v) else some (.inl (w, r)) := by
  unfold farR at h1
  unfold graph_Peripheral_l10
  simp only
  obtain ⟨l, g1, h1⟩ := bs h1
  obtain ⟨x, g2, h1⟩ := bs h1
  obtain ⟨z, g3, h1⟩ := bs h1
  obtain rfl := Option.some.inj h1
  rw [bindS g1, bindS g2, bindS g3, bindS h2]

theorem bf_pre {adj : List (List Int)} {root : Nat} {lev : Nat → Nat} {seen : List Bool} {out : List (List Int)} (h : BF adj root lev seen out []) (hr : root < adj.length) (hn : adj.length ≤ 12) :
    0 < out.length ∧ out.length ≤ adj.length ∧ (∀ l, l ∈ out → l ≠ []) ∧ (∀ l, l ∈ out → ∀ x, x ∈ l → 0 ≤ x ∧ x < adj.length) ∧ (∀ l, l ∈ out → l.length ≤ 1000) := by
  have hk : ∀ l, l ∈ out → l.Pairwise (· < ·) ∧ ∀ x, x ∈ l → 0 ≤ x ∧ x < adj.length := by
    intro l hl
    obtain ⟨k, hk⟩ := List.mem_iff_getElem?.1 hl
    have := h.lst k l (by rw [List.getElem?_append_left (List.getElem?_eq_some_iff.1 hk).1]; exact hk)
    exact ⟨this.1, this.2.1⟩
  refine ⟨?_, h.count, h.ne, fun l hl => (hk l hl).2, fun l hl => ?_⟩
  · have h1 := (h.rt root hr).2 rfl
    have h2 := h.lev_le root hr
    omega
  · have := asc_len (hk l hl).1 (hk l hl).2
    omega

theorem peripheral_ok {adj : List (List Int)} (hG : Gr adj) (hn : adj.length ≤ 12) {v : Nat} (hv : v < adj.length) {a : List (List Int)} (ha : graph_levels adj (v : Int) = some a) :
    Ret (graph_Peripheral adj (v : Int)) (fun p => ∃ (q : Nat) (b r : List (List Int)) (w : Int), p = (q : Int) ∧ q < adj.length ∧ p ∈ a.flatten ∧ graph_levels adj p = some b ∧ a.length ≤ b.length ∧ farR adj b = some w ∧ graph_levels adj w = some r ∧ r.length ≤ b.length) := by
  obtain ⟨a', lev, seen, c, h1, h2, h3, h4⟩ := levels_cls hG hn hv
  rw [ha] at h1
  obtain rfl := Option.some.inj h1
  have hchk := graphCheck_ok hG (show adj.length ≤ 200 by omega)
  unfold graph_Peripheral graph_vertex
  rw [bindS hchk]
  have e1 : ¬ (v : Int) < 0 := by omega
  have e2 : (v : Int) < (adj.length : Int) := by omega
  simp only [if_pos, Option.bind_some]
  have e3 : (0 : Int) ≤ (v : Int) := by omega
  simp only [e2, e3, decide_true, Bool.and_self, Bool.not_true, Bool.false_eq_true, if_false, ha, Option.bind_some, ret_bind, ret_some]
  refine ret_loop adj.length (fun k (s : Int × List (List Int)) => ∃ q : Nat, s.1 = (q : Int) ∧ q < adj.length ∧ s.1 ∈ a.flatten ∧ graph_levels adj s.1 = some s.2 ∧ a.length ≤ s.2.length ∧ k ≤ s.2.length) ⟨v, rfl, hv, (h4 _).2 h3.mem, ha, by simp, by simp⟩ ?_
  rintro k ⟨p, now⟩ hk ⟨q, rfl, hq, hpa, hnow, hla, hkn⟩
  simp only at hpa hnow hla hkn
  obtain ⟨now', lev', seen', c', g1, g2, g3, g4⟩ := levels_cls hG hn hq
  rw [hnow] at g1
  obtain rfl := Option.some.inj g1
  obtain ⟨p1, p2, p3, p4, p5⟩ := bf_pre g2 hq hn
  obtain ⟨w, w1, w2, w3, w4⟩ := far_ok p1 (by omega) p3 p4 p5
  obtain ⟨u, rfl⟩ := Int.eq_ofNat_of_zero_le w3
  have hu : u < adj.length := by omega
  obtain ⟨r, lev2, seen2, c2, k1, k2, k3, k4⟩ := levels_cls hG hn hu
  obtain ⟨_, q2, _⟩ := bf_pre k2 hu hn
  have hua : (u : Int) ∈ a.flatten := by
    rw [h4]
    exact g3.min (fun x => (x : Int) ∈ c) ((h4 _).1 hpa) (fun v w _ hs hnb => h3.clo v w hs hnb) u ((g4 _).1 w2)
  rw [per_step w1 k1]
  simp only [ret_if, ret_some, vq_l, vq_r]
  exact ⟨fun h => ⟨q, now, r, u, rfl, hq, hpa, hnow, hla, w1, k1, by omega⟩, fun h => ⟨by omega, u, rfl, hu, hua, k1, by omega, by omega⟩⟩

theorem per_again {adj : List (List Int)} (hG : Gr adj) (hn : adj.length ≤ 12) {q : Nat} (hq : q < adj.length) {b r : List (List Int)} {w : Int} (h1 : graph_levels adj (q : Int) = some b) (h2 : farR adj b = some w) (h3 : graph_levels adj w = some r) (h4 : r.length ≤ b.length) : graph_Peripheral adj (q : Int) = some (q : Int) := by
  have hchk := graphCheck_ok hG (show adj.length ≤ 200 by omega)
  unfold graph_Peripheral graph_vertex
  rw [bindS hchk]
  have e2 : (q : Int) < (adj.length : Int) := by omega
  have e3 : (0 : Int) ≤ (q : Int) := by omega
  simp only [e2, e3, if_pos, decide_true, Bool.and_self, Option.bind_some, Bool.not_true, Bool.false_eq_true, if_false, h1]
  have hs : graph_Peripheral_l10 adj ((q : Int), b) = some (.inr (q : Int)) := by rw [per_step h2 h3, if_pos (by omega)]
  have : loop (graph_Peripheral_l10 adj) ((q : Int), b) = some (q : Int) := by
    unfold loop
    obtain ⟨F, hF⟩ : ∃ F, FUEL = F + 1 := ⟨1099511627775, rfl⟩
    rw [hF]
    simp [loopN, hs]
  rw [bindS this]

end Pl
/- Graphs as tables: making, joining, listing; what some vertices induce. -/
set_option linter.unusedSimpArgs false
set_option linter.unusedVariables false
namespace Pl
open Sx Go M Vc

/-- a table of a relation -/
def Tr (T : List (List Bool)) (n : Nat) (R : Nat → Nat → Prop) : Prop := T.length = n ∧ ∀ i, i < n → ∃ r, T[i]? = some r ∧ r.length = n ∧ ∀ j, j < n → ∃ b : Bool, r[j]? = some b ∧ (b = true ↔ R i j)
theorem Tr.congr {T : List (List Bool)} {n : Nat} {R R' : Nat → Nat → Prop} (h : ∀ i j, i < n → j < n → (R i j ↔ R' i j)) (hT : Tr T n R) : Tr T n R' := by
  refine ⟨hT.1, fun i hi => ?_⟩
  obtain ⟨r, h1, h2, h3⟩ := hT.2 i hi
  exact ⟨r, h1, h2, fun j hj => by obtain ⟨b, h4, h5⟩ := h3 j hj; exact ⟨b, h4, by rw [h5, h i j hi hj]⟩⟩
theorem Tr.blank (n : Nat) : Tr (List.replicate n (List.replicate n false)) n (fun _ _ => False) :=
  ⟨by simp, fun i hi => ⟨List.replicate n false, by simp [hi], by simp, fun j hj => ⟨false, by simp [hj], by simp⟩⟩⟩
theorem Tr.row {T : List (List Bool)} {n : Nat} {R : Nat → Nat → Prop} (hT : Tr T n R) {i : Nat} (hi : i < n) : ∃ r, getI T (i : Int) = some r ∧ T[i]? = some r ∧ r.length = n ∧ ∀ j : Nat, j < n → ∃ b : Bool, getI r (j : Int) = some b ∧ (b = true ↔ R i j) := by
  obtain ⟨r, h1, h2, h3⟩ := hT.2 i hi
  exact ⟨r, h1, h1, h2, fun j hj => h3 j hj⟩
theorem Tr.put {T : List (List Bool)} {n : Nat} {R : Nat → Nat → Prop} (hT : Tr T n R) {i j : Nat} (hi : i < n) {r : List Bool} (hr : T[i]? = some r) {z : Bool} {p : Prop} (hz : z = true ↔ p) : Tr (T.set i (r.set j z)) n (fun a c => (a = i ∧ c = j ∧ p) ∨ (¬ (a = i ∧ c = j) ∧ R a c)) := by
  refine ⟨by simp [hT.1], fun a ha => ?_⟩
  obtain ⟨r', h1, h2, h3⟩ := hT.2 a ha
  by_cases hai : i = a
  · subst hai
    rw [hr] at h1
    obtain rfl := Option.some.inj h1
    refine ⟨r.set j z, by rw [List.getElem?_set, if_pos rfl, if_pos (by rw [hT.1]; exact ha)], by simp [h2], fun c hc => ?_⟩
    obtain ⟨b, h4, h5⟩ := h3 c hc
    rw [List.getElem?_set]
    by_cases hcj : j = c
    · subst hcj
      exact ⟨z, by rw [if_pos rfl, if_pos (by omega)], by rw [hz]; simp⟩
    · exact ⟨b, by rw [if_neg hcj, h4], by rw [h5]; simp [show ¬ c = j from fun h => hcj h.symm]⟩
  · refine ⟨r', by rw [List.getElem?_set, if_neg hai, h1], h2, fun c hc => ?_⟩
    obtain ⟨b, h4, h5⟩ := h3 c hc
    exact ⟨b, h4, by rw [h5]; simp [show ¬ a = i from fun h => hai h.symm]⟩
theorem Tr.on {T : List (List Bool)} {n : Nat} {R : Nat → Nat → Prop} (hT : Tr T n R) {i j : Nat} (hi : i < n) {r : List Bool} (hr : T[i]? = some r) : Tr (T.set i (r.set j true)) n (fun a c => (a = i ∧ c = j) ∨ R a c) := by
  refine Tr.congr (fun a c _ _ => ?_) (hT.put (j := j) hi hr (z := true) (p := True) (by simp))
  by_cases h : a = i ∧ c = j
  · simp [h]
  · simp [h]
open Classical in
theorem Tr.tb {T : List (List Bool)} {n : Nat} {R : Nat → Nat → Prop} (hT : Tr T n R) : Tb T n (fun i j => decide (R i j)) := by
  refine ⟨hT.1, fun i hi => ?_⟩
  obtain ⟨r, h1, h2, h3⟩ := hT.2 i hi
  refine ⟨r, h1, h2, fun j hj => ?_⟩
  obtain ⟨b, h4, h5⟩ := h3 j hj
  rw [h4]
  congr 1
  cases b with
  | true => symm; rw [decide_eq_true_iff]; exact h5.1 rfl
  | false => symm; rw [decide_eq_false_iff_not]; intro h; have := h5.2 h; cases this

/-- l[i] and l[j] are neighbours -/
def IJ (adj : List (List Int)) (l : List Int) (i j : Nat) : Prop := ∃ (x y : Int), l[i]? = some x ∧ l[j]? = some y ∧ nbp adj x.toNat y.toNat
theorem IJ.sym {adj : List (List Int)} (hG : Gr adj) {l : List Int} {i j : Nat} (h : IJ adj l i j) : IJ adj l j i := by
  obtain ⟨x, y, h1, h2, h3⟩ := h
  exact ⟨y, x, h2, h1, nbp_sym hG h3⟩
theorem IJ.ne {adj : List (List Int)} (hG : Gr adj) {l : List Int} {i : Nat} (h : IJ adj l i i) : False := by
  obtain ⟨x, y, h1, h2, l', h3, h4⟩ := h
  rw [h1] at h2
  obtain rfl := Option.some.inj h2
  have := (hG.rng _ _ _ h3 h4).2.2
  omega

end Pl
/- Orders; that nothing stands twice. -/
set_option linter.unusedSimpArgs false
set_option linter.unusedVariables false
namespace Pl
open Sx Go M Vc

/-- a permutation of 0 to n - 1 -/
structure Pm (l : List Int) (n : Nat) : Prop where
  len : l.length = n
  nd : l.Nodup
  rng : ∀ x, x ∈ l → 0 ≤ x ∧ x < (n : Int)

/-- whether an element stands twice, by the library's sort and compaction -/
theorem compact_iff {m : List Int} (hs : m.Pairwise (· ≤ ·)) : (Go.Lib.compact m).length < m.length ↔ ¬ m.Nodup := by
  have hlen : (Go.Lib.compact m).length = ((List.range m.length).filter (Go.Lib.keeps m.toArray)).length := by
    unfold Go.Lib.compact Go.Lib.compactUpTo
    rw [List.length_map]
  have hk : ∀ j, j < m.length → (Go.Lib.keeps m.toArray j = true ↔ j = 0 ∨ m[j]! ≠ m[j - 1]!) := by
    intro j hj
    unfold Go.Lib.keeps
    simp
  constructor
  · intro h hn
    have hasc := asc_of hs hn
    have hall : ∀ j, j < m.length → Go.Lib.keeps m.toArray j = true := by
      intro j hj
      rw [hk j hj]
      by_cases h0 : j = 0
      · exact .inl h0
      · right
        have := asc_get hasc hj (i := j - 1) (by omega)
        rw [getElem!_pos m j hj, getElem!_pos m (j - 1) (by omega)]
        omega
    have := Go.Lib.compact_all m hall
    rw [this] at h
    omega
  · intro hn
    have hex : ∃ j, j < m.length ∧ Go.Lib.keeps m.toArray j ≠ true := by
      refine Classical.byContradiction fun hno => hn ?_
      have hall : ∀ j (hj : j + 1 < m.length), m[j] < m[j + 1] := by
        intro j hj
        have h1 : Go.Lib.keeps m.toArray (j + 1) = true := Classical.byContradiction fun h => hno ⟨j + 1, hj, h⟩
        rw [hk _ hj] at h1
        have h2 := h1.resolve_left (by omega)
        rw [getElem!_pos m (j + 1) hj, getElem!_pos m (j + 1 - 1) (by omega)] at h2
        have h3 := List.pairwise_iff_getElem.1 hs j (j + 1) (by omega) hj (by omega)
        have h4 : m[j + 1 - 1] = m[j] := by congr 1
        omega
      have hlt : ∀ d i (h : i + 1 + d < m.length), m[i] < m[i + 1 + d] := by
        intro d
        induction d with
        | zero => intro i h; exact hall i h
        | succ d ih =>
          intro i h
          have h1 := ih i (by omega)
          have h2 := hall (i + 1 + d) (by omega)
          have h3 : m[i + 1 + (d + 1)] = m[i + 1 + d + 1] := by congr 1
          omega
      rw [List.nodup_iff_pairwise_ne, List.pairwise_iff_getElem]
      intro i j hi hj hij
      have := hlt (j - i - 1) i (by omega)
      have h3 : m[i + 1 + (j - i - 1)]'(by omega) = m[j] := by congr 1; omega
      omega
    obtain ⟨j, hj, hkj⟩ := hex
    rw [hlen]
    have h1 := List.length_filter_lt_length_iff_exists.2 (⟨j, List.mem_range.2 hj, hkj⟩ : ∃ x, x ∈ List.range m.length ∧ ¬ Go.Lib.keeps m.toArray x = true)
    simpa using h1

end Pl
/- Orders made from numbers; relabelling by the program and by the document. -/
set_option linter.unusedSimpArgs false
set_option linter.unusedVariables false
namespace Pl
open Sx Go M Vc


theorem shuf_step {out left : List Int} {n k : Nat} {at' : Nat} (h1 : out.length = k) (h2 : left.length + k = n) (hnd : (out ++ left).Nodup) (hr : ∀ x, x ∈ out ++ left → 0 ≤ x ∧ x < (n : Int)) (hat : at' < left.length) :
    (out ++ [left[at']]).length = k + 1 ∧ (left.take at' ++ left.drop (at' + 1)).length + (k + 1) = n ∧ ((out ++ [left[at']]) ++ (left.take at' ++ left.drop (at' + 1))).Nodup ∧ ∀ x, x ∈ (out ++ [left[at']]) ++ (left.take at' ++ left.drop (at' + 1)) → 0 ≤ x ∧ x < (n : Int) := by
  have hp : ((out ++ [left[at']]) ++ (left.take at' ++ left.drop (at' + 1))).Perm (out ++ left) := by
    rw [List.append_assoc]
    refine List.Perm.append_left _ ?_
    have h3 : left = left.take at' ++ left[at'] :: left.drop (at' + 1) := by
      rw [List.getElem_cons_drop]; exact (List.take_append_drop at' left).symm
    conv => rhs; rw [h3]
    show (left[at'] :: (left.take at' ++ left.drop (at' + 1))).Perm (left.take at' ++ left[at'] :: left.drop (at' + 1))
    exact List.perm_middle.symm
  refine ⟨by simp [h1], by simp; omega, hp.nodup_iff.2 hnd, fun x hx => hr x (hp.mem_iff.1 hx)⟩

def ShI (n k : Nat) (t : List Int × List Int × Int) : Prop := t.2.2 = (k : Int) ∧ t.2.1.length = k ∧ t.1.length + k = n ∧ (t.2.1 ++ t.1).Nodup ∧ ∀ x, x ∈ t.2.1 ++ t.1 → 0 ≤ x ∧ x < (n : Int)

end Pl
/- The document's peripheral vertices and components; the law of the graphs made from numbers. -/
set_option linter.unusedSimpArgs false
set_option linter.unusedVariables false
namespace Pl
open Sx Go M Vc

/-- two loops that go in step -/
theorem loopN_sim {σ τ ρ ρ' : Type} {step1 : σ → Option (σ ⊕ ρ)} {step2 : τ → Option (τ ⊕ ρ')} (R : σ → τ → Prop) (Q : ρ → ρ' → Prop)
    (h : ∀ s t, R s t → (∀ s', step1 s = some (.inl s') → ∃ t', step2 t = some (.inl t') ∧ R s' t') ∧ (∀ o, step1 s = some (.inr o) → ∃ o', step2 t = some (.inr o') ∧ Q o o')) :
    ∀ (k : Nat) (s : σ) (t : τ) (o : ρ), R s t → loopN step1 k s = some o → ∃ o', loopN step2 k t = some o' ∧ Q o o' := by
  intro k
  induction k with
  | zero => intro s t o _ h; simp [loopN] at h
  | succ k ih =>
    intro s t o hR ho
    simp only [loopN] at ho
    cases hs : step1 s with
    | none => rw [hs] at ho; cases ho
    | some r =>
      rw [hs] at ho
      cases r with
      | inl s' =>
        obtain ⟨t', h1, h2⟩ := (h s t hR).1 s' hs
        obtain ⟨o', h3, h4⟩ := ih s' t' o h2 ho
        exact ⟨o', by simp [loopN, h1, h3], h4⟩
      | inr o1 =>
        obtain rfl := Option.some.inj ho
        obtain ⟨o', h1, h2⟩ := (h s t hR).2 o1 hs
        exact ⟨o', by simp [loopN, h1], h2⟩
theorem loop_sim {σ τ ρ ρ' : Type} {step1 : σ → Option (σ ⊕ ρ)} {step2 : τ → Option (τ ⊕ ρ')} (R : σ → τ → Prop) (Q : ρ → ρ' → Prop) {s : σ} {t : τ} {o : ρ} (hR : R s t)
    (h : ∀ s t, R s t → (∀ s', step1 s = some (.inl s') → ∃ t', step2 t = some (.inl t') ∧ R s' t') ∧ (∀ o, step1 s = some (.inr o) → ∃ o', step2 t = some (.inr o') ∧ Q o o')) (ho : loop step1 s = some o) : ∃ o', loop step2 t = some o' ∧ Q o o' :=
  loopN_sim R Q h FUEL s t o hR ho

def dg (adj : List (List Int)) (u : Int) : Nat := (adj[u.toNat]?.getD []).length
def bst (adj : List (List Int)) : Int → List Int → Int
  | w, [] => w
  | w, u :: r => bst adj (if dg adj u < dg adj w then u else w) r
theorem dg_get {adj : List (List Int)} {u : Int} (h : 0 ≤ u ∧ u < adj.length) : ∃ l, getI adj u = some l ∧ l.length = dg adj u := by
  have hu : u.toNat < adj.length := by omega
  refine ⟨adj[u.toNat], getI_of h.1 (by simp [hu]), by simp [dg, hu]⟩
theorem drop_at {l : List Int} {k : Nat} (h : k < l.length) : l.drop k = l[k] :: l.drop (k + 1) := by rw [List.drop_eq_getElem_cons h]

theorem bst_p {adj : List (List Int)} {l : List Int} (hl : l.length ≤ 1000) (hr : ∀ x, x ∈ l → 0 ≤ x ∧ x < adj.length) {w : Int} (hw : 0 ≤ w ∧ w < adj.length) : loop (graph_Peripheral_l13 l adj) (w, 0) = some (bst adj w l) := by
  refine Ret.eq ?_
  refine ret_loop l.length (fun k (s : Int × Int) => s.2 = k ∧ (0 ≤ s.1 ∧ s.1 < adj.length) ∧ bst adj s.1 (l.drop k) = bst adj w l) ⟨rfl, hw, rfl⟩ ?_
  rintro k ⟨s, i⟩ hk ⟨rfl, hs, hb⟩
  simp only at hs hb
  unfold graph_Peripheral_l13 graph_Peripheral_j14
  by_cases hkl : k < l.length
  · have hx := hr _ (List.getElem_mem hkl)
    obtain ⟨a, a1, a2⟩ := dg_get hx
    obtain ⟨b, b1, b2⟩ := dg_get hs
    have e1 : getI l (k : Int) = some l[k] := getI_lt hkl
    have e5 : (k : Int) < (l.length : Int) := by omega
    have hw1 : wa .i64 (k : Int) 1 = ((k + 1 : Nat) : Int) := wa1 (by omega)
    rw [drop_at hkl, bst] at hb
    simp only [ret_bind, ret_if, ret_get, ret_set, ret_app, ret_mkL, ret_sli, ret_wr, ret_wq, ret_some, vq_l, vq_r, Int.toNat_natCast, if_true, if_false, obs, decide_false, decide_true, Bool.false_eq_true, Bool.not_true, Bool.not_false, not_true_eq_false, not_false_eq_true, true_implies, false_implies, reduceCtorEq, e1, e5, a1, b1, hw1, a2, b2]
    refine ⟨fun h => ⟨hkl, trivial, hx, ?_⟩, fun h => ⟨hkl, trivial, hs, ?_⟩⟩
    · rw [if_pos (by omega)] at hb; exact hb
    · rw [if_neg (by omega)] at hb; exact hb
  · have e5 : ¬ (k : Int) < (l.length : Int) := by omega
    simp only [ret_bind, ret_if, ret_get, ret_set, ret_app, ret_mkL, ret_sli, ret_wr, ret_wq, ret_some, vq_l, vq_r, Int.toNat_natCast, if_true, if_false, obs, decide_false, decide_true, Bool.false_eq_true, Bool.not_true, Bool.not_false, not_true_eq_false, not_false_eq_true, true_implies, false_implies, reduceCtorEq, e5]
    rw [List.drop_of_length_le (by omega)] at hb
    exact hb
theorem bst_r {adj : List (List Int)} {l : List Int} (hl : l.length ≤ 1000) (hr : ∀ x, x ∈ l → 0 ≤ x ∧ x < adj.length) (hne : 0 < l.length) : loop (sparseref12_Peripheral_l14 l adj) (l[0], 1) = some (bst adj l[0] l) := by
  refine Ret.eq ?_
  have h0 : bst adj l[0] (l.drop 0) = bst adj l[0] (l.drop 1) := by
    rw [drop_at hne]
    show bst adj (if dg adj l[0] < dg adj l[0] then l[0] else l[0]) _ = _
    rw [if_neg (by omega)]
  rw [List.drop_zero] at h0
  refine ret_loop l.length (fun k (s : Int × Int) => s.2 = ((k + 1 : Nat) : Int) ∧ (0 ≤ s.1 ∧ s.1 < adj.length) ∧ bst adj s.1 (l.drop (k + 1)) = bst adj l[0] l) ⟨rfl, hr _ (List.getElem_mem hne), h0.symm⟩ ?_
  rintro k ⟨s, i⟩ hk ⟨h, hs, hb⟩
  simp only at h hs hb
  subst h
  unfold sparseref12_Peripheral_l14 sparseref12_Peripheral_j15
  by_cases hkl : k + 1 < l.length
  · have hx := hr _ (List.getElem_mem hkl)
    obtain ⟨a, a1, a2⟩ := dg_get hx
    obtain ⟨b, b1, b2⟩ := dg_get hs
    have e1 : getI l ((k + 1 : Nat) : Int) = some l[k + 1] := getI_lt hkl
    have e5 : ((k + 1 : Nat) : Int) < (l.length : Int) := by omega
    have hw1 : wa .i64 ((k + 1 : Nat) : Int) 1 = ((k + 1 + 1 : Nat) : Int) := wa1 (by omega)
    rw [drop_at hkl, bst] at hb
    simp only [ret_bind, ret_if, ret_get, ret_set, ret_app, ret_mkL, ret_sli, ret_wr, ret_wq, ret_some, vq_l, vq_r, Int.toNat_natCast, if_true, if_false, obs, decide_false, decide_true, Bool.false_eq_true, Bool.not_true, Bool.not_false, not_true_eq_false, not_false_eq_true, true_implies, false_implies, reduceCtorEq, e1, e5, a1, b1, hw1, a2, b2]
    refine ⟨fun h => ⟨by omega, trivial, hx, ?_⟩, fun h => ⟨by omega, trivial, hs, ?_⟩⟩
    · rw [if_pos (by omega)] at hb; exact hb
    · rw [if_neg (by omega)] at hb; exact hb
  · have e5 : ¬ ((k + 1 : Nat) : Int) < (l.length : Int) := by omega
    simp only [ret_bind, ret_if, ret_get, ret_set, ret_app, ret_mkL, ret_sli, ret_wr, ret_wq, ret_some, vq_l, vq_r, Int.toNat_natCast, if_true, if_false, obs, decide_false, decide_true, Bool.false_eq_true, Bool.not_true, Bool.not_false, not_true_eq_false, not_false_eq_true, true_implies, false_implies, reduceCtorEq, e5]
    rw [List.drop_of_length_le (by omega)] at hb
    exact hb

theorem far_same {adj : List (List Int)} {out : List (List Int)} (hlen : 0 < out.length) (hl2 : out.length ≤ 1000) (hne : ∀ l, l ∈ out → l ≠ []) (hr : ∀ l, l ∈ out → ∀ x, x ∈ l → 0 ≤ x ∧ x < adj.length) (hsz : ∀ l, l ∈ out → l.length ≤ 1000) {w : Int} (h : farR adj out = some w) :
    ((getI out (ws .i64 (out.length : Int) 1)).bind fun x102 => (getI x102 0).bind fun x104 => loop (sparseref12_Peripheral_l14 x102 adj) (x104, 1)) = some w := by
  unfold farR at h
  have e : ws .i64 (out.length : Int) 1 = ((out.length - 1 : Nat) : Int) := by rw [ws_i (by omega) (by omega)]; omega
  have hk : out.length - 1 < out.length := by omega
  rw [e, bindS (getI_lt hk)] at h ⊢
  have hm := List.getElem_mem hk
  generalize out[out.length - 1] = l at hm h ⊢
  have hlp := List.length_pos_iff.2 (hne l hm)
  have hll := hsz l hm
  have hg0 : getI l 0 = some l[0] := getI_lt hlp
  rw [bindS hg0] at h ⊢
  rw [bst_p hll (hr l hm) (hr l hm _ (List.getElem_mem hlp))] at h
  rw [bst_r hll (hr l hm) hlp]
  exact h

theorem rper_ok {adj : List (List Int)} (hG : Gr adj) (hn : adj.length ≤ 12) {v : Nat} (hv : v < adj.length) {p : Int} (hp : graph_Peripheral adj (v : Int) = some p) : sparseref12_Peripheral adj (v : Int) = some p := by
  have hchk := graphCheck_ok hG (show adj.length ≤ 200 by omega)
  obtain ⟨a, lev, seen, c, a1, a2, a3, a4⟩ := levels_cls hG hn hv
  unfold graph_Peripheral graph_vertex at hp
  have e2 : (v : Int) < (adj.length : Int) := by omega
  have e3 : (0 : Int) ≤ (v : Int) := by omega
  rw [bindS hchk] at hp
  simp only [e2, e3, if_pos, decide_true, Bool.and_self, Option.bind_some, Bool.not_true, Bool.false_eq_true, if_false, a1] at hp
  obtain ⟨o, ho, hp⟩ := bs hp
  obtain rfl := Option.some.inj hp
  obtain ⟨o', h1, rfl⟩ := loop_sim (step1 := graph_Peripheral_l10 adj) (step2 := sparseref12_Peripheral_l11 adj) (fun s t => t = s.1 ∧ ∃ q : Nat, s.1 = (q : Int) ∧ q < adj.length ∧ graph_levels adj s.1 = some s.2) (fun o o' => o' = o) (s := ((v : Int), a)) (t := (v : Int)) ⟨rfl, v, rfl, hv, a1⟩ (by
    rintro ⟨s, now⟩ t ⟨rfl, q, rfl, hq, hnow⟩
    simp only at hnow
    obtain ⟨now', lev', seen', c', g1, g2, g3, g4⟩ := levels_cls hG hn hq
    rw [hnow] at g1
    obtain rfl := Option.some.inj g1
    obtain ⟨p1, p2, p3, p4, p5⟩ := bf_pre g2 hq hn
    obtain ⟨w, w1, w2, w3, w4⟩ := far_ok p1 (by omega) p3 p4 p5
    obtain ⟨u, rfl⟩ := Int.eq_ofNat_of_zero_le w3
    have hu : u < adj.length := by omega
    obtain ⟨r, lev2, seen2, c2, k1, k2, k3, k4⟩ := levels_cls hG hn hu
    obtain ⟨ro, rl, rs, r1, r2⟩ := rLevels_ok hG hn hq
    obtain rfl := g2.out_eq r2
    obtain ⟨so, sl, ss, s1, s2⟩ := rLevels_ok hG hn hu
    obtain rfl := k2.out_eq s2
    have hf := far_same p1 (by omega) p3 p4 p5 w1
    have hstep : sparseref12_Peripheral_l11 adj (q : Int) = if (r.length : Int) ≤ (now.length : Int) then some (.inr (q : Int)) else some (.inl (u : Int)) := by
      unfold sparseref12_Peripheral_l11
      rw [bindS r1]
      obtain ⟨l, f1, hf⟩ := bs hf
      obtain ⟨x, f2, f3⟩ := bs hf
      rw [bindS f1, bindS f2, bindS f3, bindS s1]
    rw [per_step w1 k1, hstep]
    by_cases hc : (r.length : Int) ≤ (now.length : Int)
    · rw [if_pos hc, if_pos hc]
      refine ⟨fun s' h => (by cases h), fun o h => ⟨_, rfl, ?_⟩⟩
      have := Option.some.inj h
      exact Sum.inr.inj this
    · rw [if_neg hc, if_neg hc]
      refine ⟨fun s' h => ⟨_, rfl, ?_⟩, fun o h => (by cases h)⟩
      have := Sum.inl.inj (Option.some.inj h)
      subst this
      exact ⟨rfl, u, rfl, hu, k1⟩) ho
  unfold sparseref12_Peripheral
  rw [bindS (rCheck_ok hG (by omega)), if_neg (by simp; omega), bindS h1]

theorem rmark_ok {ls : List (List Int)} {n : Nat} (hl : ls.length ≤ 1000) (hs : ∀ l, l ∈ ls → l.length ≤ 1000) (hr : ∀ l, l ∈ ls → ∀ x, x ∈ l → 0 ≤ x ∧ x < (n : Int)) :
    Ret (loop (sparseref12_Components_l71 ls) (List.replicate n false, 0)) (fun t => t.length = n ∧ ∀ u : Nat, u < n → t[u]? = some (decide ((u : Int) ∈ ls.flatten))) := by
  refine ret_loop ls.length (fun k (t : List Bool × Int) => t.2 = k ∧ t.1.length = n ∧ ∀ u : Nat, u < n → t.1[u]? = some (decide ((u : Int) ∈ (ls.take k).flatten))) ⟨rfl, by simp, fun u hu => by simp [hu]⟩ ?_
  rintro k ⟨t, i⟩ hk ⟨rfl, h1, h2⟩
  simp only at h1 h2
  unfold sparseref12_Components_l71
  by_cases hkl : k < ls.length
  · obtain ⟨l, hx⟩ : ∃ l, ls[k]? = some l := ⟨ls[k], by simp [hkl]⟩
    have hll := hs l (mem_get hx)
    have hlr := hr l (mem_get hx)
    have e1 : getI ls (k : Int) = some l := hx
    have e5 : (k : Int) < (ls.length : Int) := by omega
    have hw : wa .i64 (k : Int) 1 = ((k + 1 : Nat) : Int) := wa1 (by omega)
    simp only [ret_bind, ret_if, ret_get, ret_set, ret_app, ret_mkL, ret_sli, ret_wr, ret_wq, ret_some, vq_l, vq_r, Int.toNat_natCast, if_true, if_false, obs, decide_false, decide_true, Bool.false_eq_true, Bool.not_true, Bool.not_false, not_true_eq_false, not_false_eq_true, true_implies, false_implies, reduceCtorEq, e5, hw]
    refine ret_call (P := fun s => s.length = n ∧ ∀ u : Nat, u < n → s[u]? = some (decide ((u : Int) ∈ (ls.take k).flatten ∨ (u : Int) ∈ l))) ?_ ?_
    · refine ret_loop l.length (fun m (s : List Bool × Int) => s.2 = m ∧ s.1.length = n ∧ ∀ u : Nat, u < n → s.1[u]? = some (decide ((u : Int) ∈ (ls.take k).flatten ∨ (u : Int) ∈ l.take m))) ⟨rfl, h1, fun u hu => by rw [h2 u hu]; simp⟩ ?_
      rintro m ⟨s, i⟩ hm ⟨rfl, s1, s2⟩
      simp only at s1 s2
      unfold sparseref12_Components_l76
      by_cases hml : m < l.length
      · obtain ⟨x, hx⟩ : ∃ x, l[m]? = some x := ⟨l[m], by simp [hml]⟩
        have hxr := hlr x (mem_get hx)
        have e2 : getI l (m : Int) = some x := hx
        have e6 : (m : Int) < (l.length : Int) := by omega
        have hw2 : wa .i64 (m : Int) 1 = ((m + 1 : Nat) : Int) := wa1 (by omega)
        simp only [ret_bind, ret_if, ret_get, ret_set, ret_app, ret_mkL, ret_sli, ret_wr, ret_wq, ret_some, vq_l, vq_r, Int.toNat_natCast, if_true, if_false, obs, decide_false, decide_true, Bool.false_eq_true, Bool.not_true, Bool.not_false, not_true_eq_false, not_false_eq_true, true_implies, false_implies, reduceCtorEq, e1, e2, e6, hw2]
        refine ⟨hxr.1, by omega, hml, trivial, by simp [s1], fun u hu => ?_⟩
        rw [List.getElem?_set, s2 u hu]
        by_cases hxu : x.toNat = u
        · rw [if_pos hxu, if_pos (by omega)]
          congr 1; symm
          rw [decide_eq_true_iff, mts hx]
          exact .inr (.inr (by omega))
        · rw [if_neg hxu]
          congr 1
          rw [decide_eq_decide, mts hx]
          constructor
          · rintro (h | h)
            · exact .inl h
            · exact .inr (.inl h)
          · rintro (h | h | h)
            · exact .inl h
            · exact .inr h
            · omega
      · have e6 : ¬ (m : Int) < (l.length : Int) := by omega
        simp only [ret_bind, ret_if, ret_get, ret_set, ret_app, ret_mkL, ret_sli, ret_wr, ret_wq, ret_some, vq_l, vq_r, Int.toNat_natCast, if_true, if_false, obs, decide_false, decide_true, Bool.false_eq_true, Bool.not_true, Bool.not_false, not_true_eq_false, not_false_eq_true, true_implies, false_implies, reduceCtorEq, e1, e6]
        exact ⟨s1, fun u hu => by rw [s2 u hu, take_all (l := l) (by omega)]⟩
    · rintro s ⟨s1, s2⟩
      refine ⟨hkl, trivial, s1, fun u hu => ?_⟩
      rw [s2 u hu]
      congr 1
      rw [decide_eq_decide, tks hx, List.flatten_append]
      simp
  · have e5 : ¬ (k : Int) < (ls.length : Int) := by omega
    simp only [ret_bind, ret_if, ret_get, ret_set, ret_app, ret_mkL, ret_sli, ret_wr, ret_wq, ret_some, vq_l, vq_r, Int.toNat_natCast, if_true, if_false, obs, decide_false, decide_true, Bool.false_eq_true, Bool.not_true, Bool.not_false, not_true_eq_false, not_false_eq_true, true_implies, false_implies, reduceCtorEq, e5]
    exact ⟨h1, fun u hu => by rw [h2 u hu, take_all (by omega)]⟩

theorem rcoll_ok {adj : List (List Int)} (hn : adj.length ≤ 1000) {seen t : List Bool} {tm : Nat → Prop} [DecidablePred tm] (hs : seen.length = adj.length) (ht : ∀ u : Nat, u < adj.length → t[u]? = some (decide (tm u))) :
    Ret (loop (sparseref12_Components_l74 adj t) (seen, [], 0)) (fun s => s.1.length = adj.length ∧ s.2 = coll tm adj.length ∧ ∀ u : Nat, u < adj.length → s.1[u]? = if tm u then some true else seen[u]?) := by
  refine ret_loop adj.length (fun k (s : List Bool × List Int × Int) => s.2.2 = k ∧ s.1.length = adj.length ∧ s.2.1 = coll tm k ∧ ∀ u : Nat, u < adj.length → s.1[u]? = if u < k ∧ tm u then some true else seen[u]?) ⟨rfl, hs, rfl, fun u hu => by simp⟩ ?_
  rintro k ⟨s, c, i⟩ hk ⟨h, h1, h2, h3⟩
  simp only at h h1 h2 h3
  subst h h2
  have hcl := coll_len (tm := tm) k
  unfold sparseref12_Components_l74 sparseref12_Components_j75
  by_cases hkl : k < adj.length
  · have e1 : getI t (k : Int) = some (decide (tm k)) := ht k hkl
    have e5 : (k : Int) < (adj.length : Int) := by omega
    have hw : wa .i64 (k : Int) 1 = ((k + 1 : Nat) : Int) := wa1 (by omega)
    simp only [ret_bind, ret_if, ret_get, ret_set, ret_app, ret_mkL, ret_sli, ret_wr, ret_wq, ret_some, vq_l, vq_r, Int.toNat_natCast, if_true, if_false, obs, decide_false, decide_true, Bool.false_eq_true, Bool.not_true, Bool.not_false, not_true_eq_false, not_false_eq_true, true_implies, false_implies, reduceCtorEq, e1, e5, hw, decide_eq_true_eq]
    refine ⟨fun h => ⟨by simp; omega, by omega, by omega, hkl, trivial, by simp [h1], by rw [coll, if_pos h], fun u hu => ?_⟩, fun h => ⟨hkl, trivial, h1, by rw [coll, if_neg h, List.append_nil], fun u hu => ?_⟩⟩
    · rw [List.getElem?_set]
      by_cases hku : k = u
      · subst hku; rw [if_pos rfl, if_pos (by omega), if_pos ⟨by omega, h⟩]
      · rw [if_neg hku, h3 u hu]
        by_cases hc : u < k ∧ tm u
        · rw [if_pos hc, if_pos ⟨by omega, hc.2⟩]
        · rw [if_neg hc, if_neg (fun hh => hc ⟨by omega, hh.2⟩)]
    · rw [h3 u hu]
      by_cases hc : u < k ∧ tm u
      · rw [if_pos hc, if_pos ⟨by omega, hc.2⟩]
      · rw [if_neg hc, if_neg]
        rintro ⟨h4, h5⟩
        by_cases huk : u = k
        · subst huk; exact h h5
        · exact hc ⟨by omega, h5⟩
  · have e5 : ¬ (k : Int) < (adj.length : Int) := by omega
    have : k = adj.length := by omega
    subst this
    simp only [ret_bind, ret_if, ret_get, ret_set, ret_app, ret_mkL, ret_sli, ret_wr, ret_wq, ret_some, vq_l, vq_r, Int.toNat_natCast, if_true, if_false, obs, decide_false, decide_true, Bool.false_eq_true, Bool.not_true, Bool.not_false, not_true_eq_false, not_false_eq_true, true_implies, false_implies, reduceCtorEq, e5]
    refine ⟨h1, trivial, fun u hu => ?_⟩
    rw [h3 u hu]
    simp [hu]

open Classical in
theorem rcomponents_ok {adj : List (List Int)} (hG : Gr adj) (hn : adj.length ≤ 12) : ∃ out, sparseref12_Components adj = some out ∧ CS adj adj.length out := by
  have : Ret (sparseref12_Components adj) (fun out => CS adj adj.length out) := by
    unfold sparseref12_Components
    rw [bindS (rCheck_ok hG (by omega)), if_pos rfl, bindS (mkL_nat false adj.length (by omega))]
    simp only [ret_bind, ret_some]
    refine ret_loop adj.length (fun k (t : List Bool × List (List Int) × Int) => t.2.2 = k ∧ CS adj k t.2.1 ∧ t.1.length = adj.length ∧ ∀ u : Nat, u < adj.length → t.1[u]? = some (decide (∃ c, c ∈ t.2.1 ∧ (u : Int) ∈ c))) ⟨rfl, ⟨by simp, by simp, by simp, by simp, by simp⟩, by simp, fun u hu => by simp [hu]⟩ ?_
    rintro k ⟨seen, out, i⟩ hk ⟨rfl, hC, hl, hs⟩
    simp only at hC hl hs
    unfold sparseref12_Components_l51 sparseref12_Components_j68
    by_cases hkn : k < adj.length
    · have e1 : getI seen (k : Int) = some (decide (∃ c, c ∈ out ∧ (k : Int) ∈ c)) := hs k hkn
      have e5 : (k : Int) < (adj.length : Int) := by omega
      have hw : wa .i64 (k : Int) 1 = ((k + 1 : Nat) : Int) := wa1 (by omega)
      obtain ⟨o, lev, sn, c, c1, c2, c3, c4⟩ := levels_cls hG hn hkn
      obtain ⟨o', lev', sn', r1, r2⟩ := rLevels_ok hG hn hkn
      obtain rfl := c2.out_eq r2
      obtain ⟨p1, p2, p3, p4, p5⟩ := bf_pre c2 hkn hn
      simp only [ret_bind, ret_if, ret_get, ret_set, ret_app, ret_mkL, ret_sli, ret_wr, ret_wq, ret_some, vq_l, vq_r, Int.toNat_natCast, if_true, if_false, obs, decide_false, decide_true, Bool.false_eq_true, Bool.not_true, Bool.not_false, not_true_eq_false, not_false_eq_true, true_implies, false_implies, reduceCtorEq, e1, e5, hw, decide_eq_true_eq]
      refine ⟨fun h => ⟨hkn, trivial, hC.next h, hl, hs⟩, fun hno => ?_⟩
      rw [ret_of r1]
      refine ⟨by omega, by omega, ?_⟩
      refine ret_call (rmark_ok (by omega) p5 p4) ?_
      rintro t ⟨t1, t2⟩
      refine ret_call (rcoll_ok (by omega) hl t2) ?_
      rintro ⟨s, c'⟩ ⟨s1, s2, s3⟩
      simp only at s1 s2 s3
      have hcc : c' = c := by
        rw [s2]
        refine asc_unique (coll_asc _) c3.asc fun x => ?_
        rw [coll_mem]
        constructor
        · rintro ⟨h1, h2, h3⟩
          rw [c4] at h3
          rwa [show ((x.toNat : Nat) : Int) = x by omega] at h3
        · intro hx
          have := c3.rng x hx
          refine ⟨this.1, by omega, ?_⟩
          rw [c4, show ((x.toNat : Nat) : Int) = x by omega]
          exact hx
      have hcl2 := hC.len
      refine ⟨by simp; omega, hkn, trivial, by rw [hcc]; exact hC.push hG hno c3, s1, fun u hu => ?_⟩
      simp only [hcc]
      rw [s3 u hu, hs u hu]
      by_cases huc : (u : Int) ∈ c
      · rw [if_pos ((c4 _).2 huc)]
        congr 1; symm
        rw [decide_eq_true_iff]
        exact ⟨c, by simp, huc⟩
      · rw [if_neg (fun h => huc ((c4 _).1 h))]
        congr 1
        rw [decide_eq_decide]
        constructor
        · rintro ⟨c', h1, h2⟩; exact ⟨c', by simp [h1], h2⟩
        · rintro ⟨c', h1, h2⟩
          rw [List.mem_append, List.mem_singleton] at h1
          rcases h1 with h1 | rfl
          · exact ⟨c', h1, h2⟩
          · exact absurd h2 huc
    · have e5 : ¬ (k : Int) < (adj.length : Int) := by omega
      have : k = adj.length := by omega
      subst this
      simp only [ret_bind, ret_if, ret_get, ret_set, ret_app, ret_mkL, ret_sli, ret_wr, ret_wq, ret_some, vq_l, vq_r, Int.toNat_natCast, if_true, if_false, obs, decide_false, decide_true, Bool.false_eq_true, Bool.not_true, Bool.not_false, not_true_eq_false, not_false_eq_true, true_implies, false_implies, reduceCtorEq, e5]
      exact hC
  exact this

theorem CS.uniq {adj : List (List Int)} (hG : Gr adj) {out out' : List (List Int)} (h : CS adj adj.length out) (h' : CS adj adj.length out') : out = out' := by
  have key : ∀ {out out' : List (List Int)}, CS adj adj.length out → CS adj adj.length out' → ∀ c, c ∈ out → c ∈ out' := by
    intro out out' h h' c hc
    obtain ⟨r, r1, r2, r3⟩ := h.cls c hc
    obtain ⟨c', k1, k2⟩ := h'.all r r1
    obtain ⟨r', q1, q2, q3⟩ := h'.cls c' k1
    have a1 : ∀ u : Nat, (u : Int) ∈ c → (u : Int) ∈ c' := r2.min (fun u => (u : Int) ∈ c') k2 (fun v w _ hv hw => q2.clo v w hv hw)
    have a2 : (r' : Int) ∈ c := by
      refine Classical.byContradiction fun hno => ?_
      exact q2.min (fun u => ¬ (u : Int) ∈ c) hno (fun v w _ hv hw hwc => hv (r2.clo w v hwc (nbp_sym hG hw))) r k2 r2.mem
    have a3 : ∀ u : Nat, (u : Int) ∈ c' → (u : Int) ∈ c := q2.min (fun u => (u : Int) ∈ c) a2 (fun v w _ hv hw => r2.clo v w hv hw)
    have : c = c' := asc_unique r2.asc q2.asc fun x => by
      constructor
      · intro hx
        have := r2.rng x hx
        have := a1 x.toNat (by rwa [show ((x.toNat : Nat) : Int) = x by omega])
        rwa [show ((x.toNat : Nat) : Int) = x by omega] at this
      · intro hx
        have := q2.rng x hx
        have := a3 x.toNat (by rwa [show ((x.toNat : Nat) : Int) = x by omega])
        rwa [show ((x.toNat : Nat) : Int) = x by omega] at this
    rw [this]; exact k1
  have hd : ∀ {out : List (List Int)}, CS adj adj.length out → (out.map fun c => c.headD 0).Pairwise (· < ·) := by
    intro out h
    rw [List.pairwise_map, List.pairwise_iff_getElem]
    intro i j hi hj hij
    obtain ⟨r, _, _, r3⟩ := h.cls _ (List.getElem_mem hi)
    obtain ⟨q, _, _, q3⟩ := h.cls _ (List.getElem_mem hj)
    have := List.pairwise_iff_getElem.1 h.ord i j hi hj hij _ _ r3 q3
    rw [List.headD_eq_head?_getD, List.headD_eq_head?_getD, r3, q3]
    exact this
  have hm : (out.map fun c => c.headD 0) = (out'.map fun c => c.headD 0) := asc_unique (hd h) (hd h') fun x => by
    simp only [List.mem_map]
    constructor
    · rintro ⟨c, h1, h2⟩; exact ⟨c, key h h' c h1, h2⟩
    · rintro ⟨c, h1, h2⟩; exact ⟨c, key h' h c h1, h2⟩
  have hlen : out.length = out'.length := by simpa using congrArg List.length hm
  apply List.ext_getElem hlen
  intro i h1 h2
  obtain ⟨r, _, r2, r3⟩ := h.cls _ (List.getElem_mem h1)
  obtain ⟨q, _, q2, q3⟩ := h'.cls _ (List.getElem_mem h2)
  have : out[i].headD 0 = out'[i].headD 0 := by
    have := congrArg (fun l => l[i]?) hm
    simpa [h1, h2] using this
  rw [List.headD_eq_head?_getD, List.headD_eq_head?_getD, r3, q3] at this
  have hrq : r = q := by simp at this; omega
  subst hrq
  exact r2.uniq q2

theorem kints_ok {l m : List Int} (hl : l.length ≤ 100000) : sparsekit_Ints l m = some (decide (l = m)) := by
  unfold sparsekit_Ints
  by_cases hlen : l.length = m.length
  · rw [if_pos (by omega)]
    refine Ret.eq ?_
    rw [ret_bind]
    refine ret_call (P := fun o => (o = .inl () ∧ l = m) ∨ (o = .inr () ∧ l ≠ m)) ?_ ?_
    · refine ret_loop l.length (fun k (t : Int) => t = (k : Int) ∧ l.take k = m.take k) ⟨rfl, by simp⟩ ?_
      rintro k t hk ⟨rfl, hI⟩
      unfold sparsekit_Ints_l1
      by_cases hkl : k < l.length
      · have e1 : getI l (k : Int) = some l[k] := getI_lt hkl
        have e2 : getI m (k : Int) = some (m[k]'(by omega)) := getI_lt (by omega)
        have e5 : (k : Int) < (l.length : Int) := by omega
        have hw : wa .i64 (k : Int) 1 = ((k + 1 : Nat) : Int) := wa1 (by omega)
        simp only [ret_bind, ret_if, ret_get, ret_set, ret_app, ret_mkL, ret_sli, ret_wr, ret_wq, ret_some, vq_l, vq_r, Int.toNat_natCast, if_true, if_false, obs, decide_false, decide_true, Bool.false_eq_true, Bool.not_true, Bool.not_false, not_true_eq_false, not_false_eq_true, true_implies, false_implies, reduceCtorEq, e1, e2, e5, hw]
        refine ⟨fun h => ⟨hkl, trivial, ?_⟩, fun h => .inr ⟨trivial, fun he => h (by subst he; rfl)⟩⟩
        rw [tks (x := l[k]) (by simp [hkl]), tks (x := m[k]'(by omega)) (by simp [show k < m.length by omega]), hI, h]
      · have e5 : ¬ (k : Int) < (l.length : Int) := by omega
        simp only [ret_bind, ret_if, ret_get, ret_set, ret_app, ret_mkL, ret_sli, ret_wr, ret_wq, ret_some, vq_l, vq_r, Int.toNat_natCast, if_true, if_false, obs, decide_false, decide_true, Bool.false_eq_true, Bool.not_true, Bool.not_false, not_true_eq_false, not_false_eq_true, true_implies, false_implies, reduceCtorEq, e5]
        refine .inl ⟨trivial, ?_⟩
        rwa [take_all (by omega), take_all (by omega)] at hI
    · rintro o (⟨rfl, h⟩ | ⟨rfl, h⟩)
      · rw [ret_some, decide_eq_true h]
      · rw [ret_some, decide_eq_false h]
  · rw [if_neg (by omega), decide_eq_false (fun h => hlen (by rw [h]))]
end Pl
/- Growing: the program's sides are the paper's. -/
namespace Pd
open Pl Sx Go M Vc
set_option linter.unusedVariables false
set_option linter.unusedSimpArgs false
set_option maxHeartbeats 4000000

/-- growing along a list -/
def grow (T : Int) (vx : List Int) : List Int → List Int × Int → (List Int × Int) ⊕ List Int
  | [], st => .inl st
  | v :: l, st => if T ≤ wm .i64 2 st.2 then .inr st.1 else grow T vx l (st.1.set v.toNat 0, wa .i64 st.2 (vx[v.toNat]?.getD 0))
def stp : (List Int × Int) ⊕ List Int → List Int
  | .inl p => p.1
  | .inr s => s
def out1 : List Int ⊕ List Int → List Int
  | .inl s => s
  | .inr s => s

theorem grow_inl {T : Int} {vx : List Int} : ∀ {l : List Int} {st p : List Int × Int}, grow T vx l st = .inl p → p.1.length = st.1.length
  | [], st, p, h => by rw [grow] at h; cases h; rfl
  | v :: l, st, p, h => by
    rw [grow] at h
    split at h
    · cases h
    · have := grow_inl h
      simpa using this
theorem grow_append {T : Int} {vx : List Int} : ∀ {a b : List Int} {st : List Int × Int}, grow T vx (a ++ b) st = match grow T vx a st with | .inl p => grow T vx b p | .inr s => .inr s
  | [], b, st => rfl
  | v :: a, b, st => by
    rw [List.cons_append, grow, grow]
    split
    · rfl
    · exact grow_append
theorem grow_keeps {T : Int} {vx : List Int} : ∀ {l : List Int} {st : List Int × Int}, S01 st.1 → (stp (grow T vx l st)).length = st.1.length ∧ S01 (stp (grow T vx l st))
  | [], st, h => ⟨rfl, h⟩
  | v :: l, st, h => by
    rw [grow]
    split
    · exact ⟨rfl, h⟩
    · have := grow_keeps (T := T) (vx := vx) (l := l) (st := (st.1.set v.toNat 0, wa .i64 st.2 (vx[v.toNat]?.getD 0))) (fun x hx => by
        rcases List.mem_or_eq_of_mem_set hx with hx | rfl
        · exact h x hx
        · exact .inl rfl)
      exact ⟨by simpa using this.1, this.2⟩
theorem drop_at {α : Type} {l : List α} {k : Nat} {x : α} (h : l[k]? = some x) : l.drop k = x :: l.drop (k + 1) := by
  have hk : k < l.length := by
    refine Classical.byContradiction fun hno => ?_
    rw [List.getElem?_eq_none (by omega)] at h; cases h
  rw [List.drop_eq_getElem_cons hk]
  rw [List.getElem?_eq_getElem hk] at h
  rw [Option.some.inj h]

theorem g4_ok {n : Nat} (hn : n ≤ 200) {vx : List Int} (hv : vx.length = n) (T : Int) {l : List Int} (hl : l.length ≤ 1000000) (hr : ∀ x, x ∈ l → 0 ≤ x ∧ x < n) {s : List Int} {g : Int} (hs : s.length = n) :
    loop (dissect_grown_l4 l T vx) (s, g, 0) = some (grow T vx l (s, g)) := by
  refine Ret.eq ?_
  refine ret_loop l.length (fun k (t : List Int × Int × Int) => t.2.2 = k ∧ t.1.length = n ∧ grow T vx l (s, g) = grow T vx (l.drop k) (t.1, t.2.1)) ⟨rfl, hs, rfl⟩ ?_
  rintro k ⟨a, b, i⟩ hk ⟨hi, h1, h2⟩
  simp only at hi h1 h2
  subst hi
  unfold dissect_grown_l4
  simp only
  by_cases hkl : k < l.length
  · obtain ⟨x, hx⟩ : ∃ x, l[k]? = some x := ⟨l[k], by simp [hkl]⟩
    have hxr := hr x (mem_get hx)
    have e1 : getI l (k : Int) = some x := hx
    have hw : wa .i64 (k : Int) 1 = ((k + 1 : Nat) : Int) := wa1 (by omega)
    obtain ⟨y, hy⟩ : ∃ y, vx[x.toNat]? = some y := ⟨vx[x.toNat]'(by omega), by simp [show x.toNat < vx.length by omega]⟩
    have e2 : getI vx x = some y := getI_of hxr.1 hy
    rw [drop_at hx, grow, hy] at h2
    rw [if_pos (by omega), bindS e1]
    by_cases hT : T ≤ wm .i64 2 b
    · rw [if_pos hT] at h2 ⊢
      rw [ret_some, vq_r, h2]
    · rw [if_neg hT] at h2 ⊢
      rw [bindS (st_ok _ hxr.1 (by omega)), bindS e2, hw, ret_some, vq_l]
      exact ⟨hkl, rfl, by simp [h1], h2⟩
  · rw [if_neg (by omega), ret_some, vq_r]
    rw [List.drop_eq_nil_of_le (by omega)] at h2
    rw [h2]; rfl

theorem r14_ok {n : Nat} (hn : n ≤ 200) {vx : List Int} (hv : vx.length = n) (T : Int) {L : List (List Int)} {j : Nat} {l : List Int} (hL : L[j]? = some l) (hl : l.length ≤ 1000000) (hr : ∀ x, x ∈ l → 0 ≤ x ∧ x < n) {s : List Int} {g : Int} (hs : s.length = n) :
    loop (sparseref18_Grow_l14 L (j : Int) T vx) (s, g, 0) = some (grow T vx l (s, g)) := by
  refine Ret.eq ?_
  refine ret_loop l.length (fun k (t : List Int × Int × Int) => t.2.2 = k ∧ t.1.length = n ∧ grow T vx l (s, g) = grow T vx (l.drop k) (t.1, t.2.1)) ⟨rfl, hs, rfl⟩ ?_
  rintro k ⟨a, b, i⟩ hk ⟨hi, h1, h2⟩
  simp only at hi h1 h2
  subst hi
  unfold sparseref18_Grow_l14
  simp only
  have e0 : getI L (j : Int) = some l := hL
  rw [bindS e0]
  by_cases hkl : k < l.length
  · obtain ⟨x, hx⟩ : ∃ x, l[k]? = some x := ⟨l[k], by simp [hkl]⟩
    have hxr := hr x (mem_get hx)
    have e1 : getI l (k : Int) = some x := hx
    have hw : wa .i64 (k : Int) 1 = ((k + 1 : Nat) : Int) := wa1 (by omega)
    obtain ⟨y, hy⟩ : ∃ y, vx[x.toNat]? = some y := ⟨vx[x.toNat]'(by omega), by simp [show x.toNat < vx.length by omega]⟩
    have e2 : getI vx x = some y := getI_of hxr.1 hy
    rw [drop_at hx, grow, hy] at h2
    rw [if_pos (by omega)]
    by_cases hT : T ≤ wm .i64 2 b
    · rw [if_pos hT] at h2 ⊢
      rw [ret_some, vq_r, h2]
    · rw [if_neg hT] at h2 ⊢
      rw [bindS e0, bindS e1, bindS (st_ok _ hxr.1 (by omega)), bindS e0, bindS e1, bindS e2, hw, ret_some, vq_l]
      exact ⟨hkl, rfl, by simp [h1], h2⟩
  · rw [if_neg (by omega), ret_some, vq_r]
    rw [List.drop_eq_nil_of_le (by omega)] at h2
    rw [h2]; rfl

theorem r13_ok {n : Nat} (hn : n ≤ 200) {vx : List Int} (hv : vx.length = n) (T : Int) {L : List (List Int)} (hL : L.length ≤ 1000) (hl : ∀ l, l ∈ L → l.length ≤ 1000) (hr : ∀ l, l ∈ L → ∀ x, x ∈ l → 0 ≤ x ∧ x < n) {s : List Int} {g : Int} (hs : s.length = n) :
    loop (sparseref18_Grow_l13 L T vx) (s, g, 0) = some (grow T vx L.flatten (s, g)) := by
  refine Ret.eq ?_
  refine ret_loop L.length (fun k (t : List Int × Int × Int) => t.2.2 = k ∧ t.1.length = n ∧ grow T vx L.flatten (s, g) = grow T vx (L.drop k).flatten (t.1, t.2.1)) ⟨rfl, hs, rfl⟩ ?_
  rintro k ⟨a, b, i⟩ hk ⟨hi, h1, h2⟩
  simp only at hi h1 h2
  subst hi
  unfold sparseref18_Grow_l13
  simp only
  by_cases hkl : k < L.length
  · obtain ⟨l, hx⟩ : ∃ x, L[k]? = some x := ⟨L[k], by simp [hkl]⟩
    have hw : wa .i64 (k : Int) 1 = ((k + 1 : Nat) : Int) := wa1 (by omega)
    have e1 := r14_ok hn hv T hx (by have := hl l (mem_get hx); omega) (hr l (mem_get hx)) (s := a) (g := b) h1
    rw [drop_at hx, List.flatten_cons, grow_append] at h2
    rw [if_pos (by omega), bindS e1]
    cases hg : grow T vx l (a, b) with
    | inl p =>
      rw [hg] at h2
      have := grow_inl hg
      simp only
      rw [hw, ret_some, vq_l]
      exact ⟨hkl, rfl, by simpa [h1] using this, h2⟩
    | inr s' =>
      rw [hg] at h2
      simp only
      rw [ret_some, vq_r, h2]
  · rw [if_neg (by omega), ret_some, vq_r]
    rw [List.drop_eq_nil_of_le (by omega)] at h2
    rw [h2]; rfl

theorem concat_ok {L : List (List Int)} (hL : L.length ≤ 1000) (hl : ∀ l, l ∈ L → l.length ≤ 1000) : slices_Concat_int L = some L.flatten := by
  unfold slices_Concat_int
  have fl : ∀ k, k ≤ L.length → (L.take k).flatten.length ≤ k * 1000 := by
    intro k hk
    induction k with
    | zero => simp
    | succ k ih =>
      obtain ⟨x, hx⟩ : ∃ x, L[k]? = some x := ⟨L[k], by simp [show k < L.length by omega]⟩
      have e : (L.take (k + 1)).flatten.length = (L.take k).flatten.length + x.length := by
        rw [tks hx, List.flatten_append, List.length_append, List.flatten_singleton]
      have := ih (by omega)
      have := hl x (mem_get hx)
      omega
  have h1 : loop (slices_Concat_int_l3 L) (0, 0) = some (L.flatten.length : Int) := by
    refine Ret.eq ?_
    refine ret_loop L.length (fun k (t : Int × Int) => t = (((L.take k).flatten.length : Int), (k : Int))) rfl ?_
    rintro k _ hk rfl
    unfold slices_Concat_int_l3 slices_Concat_int_j5
    simp only
    have hf := fl k hk
    by_cases hkl : k < L.length
    · obtain ⟨x, hx⟩ : ∃ x, L[k]? = some x := ⟨L[k], by simp [hkl]⟩
      have hw : wa .i64 (k : Int) 1 = ((k + 1 : Nat) : Int) := wa1 (by omega)
      have hxl := hl x (mem_get hx)
      have e1 : getI L (k : Int) = some x := hx
      have hw2 : wa .i64 ((L.take k).flatten.length : Int) (x.length : Int) = (((L.take (k + 1)).flatten.length : Nat) : Int) := by
        rw [wa_in (by constructor <;> omega), tks hx, List.flatten_append, List.length_append, List.flatten_singleton]
        omega
      rw [if_pos (by omega), bindS e1, hw2, if_neg (by omega), hw, ret_some, vq_l]
      exact ⟨hkl, rfl⟩
    · rw [if_neg (by omega), ret_some, vq_r, take_all (by omega)]
  have hF := fl L.length (Nat.le_refl _)
  rw [List.take_length] at hF
  have h2 : slices_Grow_int (L.flatten.length : Int) = some [] := by
    unfold slices_Grow_int slices_Grow_int_j1 slices_Grow_int_j2
    rw [if_neg (by omega)]
    have e0 : ws .i64 0 0 = 0 := by rw [ws_in (by constructor <;> omega)]; rfl
    have e1 : ws .i64 (L.flatten.length : Int) 0 = (L.flatten.length : Int) := by rw [ws_in (by constructor <;> omega)]; omega
    rw [e0, e1]
    by_cases h : (0 : Int) < (L.flatten.length : Int)
    · rw [if_pos h]
      unfold mkLp
      rw [if_pos h, bindS (mkL_nat 0 _ (by omega))]
      rfl
    · rw [if_neg h]
  have h3 : loop (slices_Concat_int_l4 L) ([], 0) = some L.flatten := by
    refine Ret.eq ?_
    refine ret_loop L.length (fun k (t : List Int × Int) => t = ((L.take k).flatten, (k : Int))) rfl ?_
    rintro k _ hk rfl
    unfold slices_Concat_int_l4
    simp only
    have hf := fl k hk
    by_cases hkl : k < L.length
    · obtain ⟨x, hx⟩ : ∃ x, L[k]? = some x := ⟨L[k], by simp [hkl]⟩
      have hw : wa .i64 (k : Int) 1 = ((k + 1 : Nat) : Int) := wa1 (by omega)
      have hxl := hl x (mem_get hx)
      have e1 : getI L (k : Int) = some x := hx
      have e2 : app (L.take k).flatten x = some (L.take (k + 1)).flatten := by
        unfold app BIG
        rw [if_pos (by omega), tks hx, List.flatten_append]; simp
      rw [if_pos (by omega), bindS e1, bindS e2, hw, ret_some, vq_l]
      exact ⟨hkl, rfl⟩
    · rw [if_neg (by omega), ret_some, vq_r, take_all (by omega)]
  rw [bindS h1, bindS h2, bindS h3]

/-- the levels from a component's far vertex -/
def pl (adj : List (List Int)) (c : List Int) : List (List Int) := ((graph_Peripheral adj (c.headD 0)).bind (graph_Levels adj)).getD []
structure Part (adj : List (List Int)) (n : Nat) (c : List Int) : Prop where
  ex : ∃ (r : Int) (p : Int), getI c 0 = some r ∧ graph_Peripheral adj r = some p ∧ sparseref12_Peripheral adj r = some p ∧ graph_Levels adj p = some (pl adj c) ∧ sparseref12_Levels adj p = some (pl adj c)
  ln : (pl adj c).length ≤ 1000
  sz : ∀ l, l ∈ pl adj c → l.length ≤ 1000
  rg : ∀ l, l ∈ pl adj c → ∀ x, x ∈ l → 0 ≤ x ∧ x < n

theorem part_ok {adj : List (List Int)} (hG : Gr adj) (hn : adj.length ≤ 12) {out : List (List Int)} (hC : CS adj adj.length out) {c : List Int} (hc : c ∈ out) : Part adj adj.length c := by
  obtain ⟨r, hr, hcc, hh⟩ := hC.cls c hc
  obtain ⟨a, lev, seen, c', a1, a2, a3, a4⟩ := levels_cls hG hn hr
  obtain ⟨p, p0, q, b, r', w, rfl, hq, _⟩ := peripheral_ok hG hn hr a1
  have p1 := rper_ok hG hn hr p0
  obtain ⟨o, lev', seen', c'', o1, o2, o3, o4⟩ := levels_cls hG hn hq
  obtain ⟨o', lev2, seen2, r1, r2⟩ := rLevels_ok hG hn hq
  obtain rfl := o2.out_eq r2
  obtain ⟨k1, k2, k3, k4, k5⟩ := bf_pre o2 hq hn
  have hL : graph_Levels adj (q : Int) = some o := by
    unfold graph_Levels graph_vertex
    have hchk := graphCheck_ok hG (show adj.length ≤ 200 by omega)
    have e2 : (q : Int) < (adj.length : Int) := by omega
    have e3 : (0 : Int) ≤ (q : Int) := by omega
    simp [hchk, e2, e3, o1]
  have hp : pl adj c = o := by
    unfold pl
    rw [List.headD_eq_head?_getD, hh, Option.getD_some, p0, Option.bind_some, hL, Option.getD_some]
  have hg : getI c 0 = some (r : Int) := by
    cases c with
    | nil => cases hh
    | cons x c => simp at hh; subst hh; rfl
  exact ⟨⟨r, q, hg, p0, p1, by rw [hp]; exact hL, by rw [hp]; exact r1⟩, by rw [hp]; omega, by rw [hp]; exact k5, by rw [hp]; exact k4⟩

theorem flat_len {L : List (List Int)} : ∀ {a : Nat}, L.length ≤ a → (∀ l, l ∈ L → l.length ≤ 1000) → L.flatten.length ≤ a * 1000 := by
  induction L with
  | nil => intros; simp
  | cons x L ih =>
    intro a ha hl
    have h1 := hl x (by simp)
    have h2 := ih (a := a - 1) (by simp at ha; omega) (fun l h => hl l (by simp [h]))
    rw [List.flatten_cons, List.length_append]
    simp at ha
    omega

theorem g3_ok {n : Nat} (hn : n ≤ 200) {vx : List Int} (hv : vx.length = n) (T : Int) {adj : List (List Int)} {C : List (List Int)} (hC : C.length ≤ 1000) (hP : ∀ c, c ∈ C → Part adj n c) {s : List Int} {g : Int} (hs : s.length = n) :
    Ret (loop (dissect_grown_l3 C adj T vx) (s, g, 0)) (fun o => out1 o = stp (grow T vx (C.map fun c => (pl adj c).flatten).flatten (s, g))) := by
  refine ret_loop C.length (fun k (t : List Int × Int × Int) => t.2.2 = k ∧ t.1.length = n ∧ grow T vx (C.map fun c => (pl adj c).flatten).flatten (s, g) = grow T vx ((C.drop k).map fun c => (pl adj c).flatten).flatten (t.1, t.2.1)) ⟨rfl, hs, rfl⟩ ?_
  rintro k ⟨a, b, i⟩ hk ⟨hi, h1, h2⟩
  simp only at hi h1 h2
  subst hi
  unfold dissect_grown_l3
  simp only
  by_cases hkl : k < C.length
  · obtain ⟨c, hx⟩ : ∃ x, C[k]? = some x := ⟨C[k], by simp [hkl]⟩
    have hw : wa .i64 (k : Int) 1 = ((k + 1 : Nat) : Int) := wa1 (by omega)
    obtain ⟨⟨r, p, c1, c2, c3, c4, c5⟩, q1, q2, q3⟩ := hP c (mem_get hx)
    have e0 : getI C (k : Int) = some c := hx
    have e1 := g4_ok hn hv T (l := (pl adj c).flatten) (by have := flat_len q1 q2; omega) (fun x hx => by obtain ⟨l, l1, l2⟩ := List.mem_flatten.1 hx; exact q3 l l1 x l2) (s := a) (g := b) h1
    rw [drop_at hx, List.map_cons, List.flatten_cons, grow_append] at h2
    rw [if_pos (by omega), bindS e0, bindS c1, bindS c2, bindS c4, bindS (concat_ok q1 q2), bindS e1]
    cases hg : grow T vx (pl adj c).flatten (a, b) with
    | inl p =>
      rw [hg] at h2
      have := grow_inl hg
      simp only
      rw [hw, ret_some, vq_l]
      exact ⟨hkl, rfl, by simpa [h1] using this, h2⟩
    | inr s' =>
      rw [hg] at h2
      simp only
      rw [ret_some, vq_r, h2]
      rfl
  · rw [if_neg (by omega), ret_some, vq_r]
    rw [List.drop_eq_nil_of_le (by omega)] at h2
    rw [h2]; rfl

theorem r10_ok {n : Nat} (hn : n ≤ 200) {vx : List Int} (hv : vx.length = n) (T : Int) {adj : List (List Int)} {C : List (List Int)} (hC : C.length ≤ 1000) (hP : ∀ c, c ∈ C → Part adj n c) {s : List Int} {g : Int} (hs : s.length = n) :
    Ret (loop (sparseref18_Grow_l10 C adj T vx) (s, g, 0)) (fun o => out1 o = stp (grow T vx (C.map fun c => (pl adj c).flatten).flatten (s, g))) := by
  refine ret_loop C.length (fun k (t : List Int × Int × Int) => t.2.2 = k ∧ t.1.length = n ∧ grow T vx (C.map fun c => (pl adj c).flatten).flatten (s, g) = grow T vx ((C.drop k).map fun c => (pl adj c).flatten).flatten (t.1, t.2.1)) ⟨rfl, hs, rfl⟩ ?_
  rintro k ⟨a, b, i⟩ hk ⟨hi, h1, h2⟩
  simp only at hi h1 h2
  subst hi
  unfold sparseref18_Grow_l10
  simp only
  by_cases hkl : k < C.length
  · obtain ⟨c, hx⟩ : ∃ x, C[k]? = some x := ⟨C[k], by simp [hkl]⟩
    have hw : wa .i64 (k : Int) 1 = ((k + 1 : Nat) : Int) := wa1 (by omega)
    obtain ⟨⟨r, p, c1, c2, c3, c4, c5⟩, q1, q2, q3⟩ := hP c (mem_get hx)
    have e0 : getI C (k : Int) = some c := hx
    have e1 := r13_ok hn hv T q1 q2 q3 (s := a) (g := b) h1
    rw [drop_at hx, List.map_cons, List.flatten_cons, grow_append] at h2
    rw [if_pos (by omega), bindS e0, bindS c1, bindS c3, bindS c5, bindS e1]
    cases hg : grow T vx (pl adj c).flatten (a, b) with
    | inl p =>
      rw [hg] at h2
      have := grow_inl hg
      simp only
      rw [hw, ret_some, vq_l]
      exact ⟨hkl, rfl, by simpa [h1] using this, h2⟩
    | inr s' =>
      rw [hg] at h2
      simp only
      rw [ret_some, vq_r, h2]
      rfl
  · rw [if_neg (by omega), ret_some, vq_r]
    rw [List.drop_eq_nil_of_le (by omega)] at h2
    rw [h2]; rfl

theorem ones_ok {n : Nat} (hn : n ≤ 200) : loop sparseref18_Grow_l1 (List.replicate n 0, 0) = some (List.replicate n 1) := by
  refine Ret.eq ?_
  refine ret_loop n (fun k (t : List Int × Int) => t = (List.replicate k 1 ++ List.replicate (n - k) 0, (k : Int))) (by simp) ?_
  rintro k _ hk rfl
  unfold sparseref18_Grow_l1
  simp only
  have hl : (List.replicate k (1 : Int) ++ List.replicate (n - k) 0).length = n := by simp; omega
  rw [hl]
  by_cases hkn : k < n
  · have hw : wa .i64 (k : Int) 1 = ((k + 1 : Nat) : Int) := wa1 (by omega)
    rw [if_pos (by omega), bindS (setI_lt (by omega)), hw, ret_some, vq_l]
    refine ⟨hkn, ?_⟩
    congr 1
    rw [List.set_append_right _ _ (by simp), List.length_replicate, Nat.sub_self, show n - k = (n - (k + 1)) + 1 by omega, List.replicate_succ, List.set_cons_zero, List.replicate_succ', List.append_assoc]
    rfl
  · rw [if_neg (by omega), ret_some, vq_r, show k = n by omega]
    simp

theorem grown_ok {adj : List (List Int)} {vx : List Int} {ed : List (List Int)} (h : Wt adj vx ed) (hn : adj.length ≤ 12) : ∃ s, dissect_grown adj vx ed = some s ∧ sparseref18_Grow adj vx ed = some s ∧ s.length = adj.length ∧ S01 s := by
  have hG := h.gr
  have hvl := h.vl
  obtain ⟨C, c1, c2⟩ := components_ok hG hn
  obtain ⟨C', r1, r2⟩ := rcomponents_ok hG hn
  obtain rfl := CS.uniq hG c2 r2
  have hcl := c2.len
  have hP : ∀ c, c ∈ C → Part adj adj.length c := fun c hc => part_ok hG hn c2 hc
  have tot := total_ok (vx := vx) (n := adj.length) (by omega) hvl h.vr adj ed
  have tot2 : dissect_total vx = some (sm adj.length (vw vx)) := tot
  have hone : S01 (List.replicate adj.length 1) := fun x hx => .inr (List.eq_of_mem_replicate hx)
  obtain ⟨o, o1, o2⟩ := g3_ok (by omega) hvl (sm adj.length (vw vx)) (by omega) hP (s := List.replicate adj.length 1) (g := 0) (by simp)
  obtain ⟨o', o3, o4⟩ := r10_ok (by omega) hvl (sm adj.length (vw vx)) (by omega) hP (s := List.replicate adj.length 1) (g := 0) (by simp)
  have hk := grow_keeps (T := sm adj.length (vw vx)) (vx := vx) (l := (C.map fun c => (pl adj c).flatten).flatten) (st := (List.replicate adj.length 1, 0)) hone
  refine ⟨_, ?_, ?_, by rw [hk.1]; simp, hk.2⟩
  · unfold dissect_grown
    rw [hvl, bindS (repeat_ok (by omega) 1), bindS tot2, bindS c1, bindS o1, ← o2]
    cases o <;> rfl
  · unfold sparseref18_Grow
    rw [hvl, bindS (mkL_nat 0 _ (by omega)), bindS (ones_ok (by omega)), bindS tot, bindS r1, bindS o3, ← o4]
    cases o' <;> rfl
end Pd
/- DissectRefined: with few vertices the bisection is the grown one, refined. -/
namespace Pd
open Pl Sx Go M Vc
set_option linter.unusedVariables false
set_option linter.unusedSimpArgs false
set_option maxHeartbeats 4000000

theorem fuel_succ : ∃ k, FUEL = k + 1 := ⟨1099511627775, rfl⟩
theorem bisect_succ (k : Nat) : dissect_bisect (k + 1) = dissect_bisect_body (dissect_bisect k) := rfl

theorem bisect_few {adj : List (List Int)} {vx : List Int} {ed : List (List Int)} (hvl : vx.length ≤ 8) {s o : List Int} (hg : dissect_grown adj vx ed = some s) (hr : dissect_refine adj vx ed s = some o) : dissect_bisect FUEL adj vx ed = some (o, true) := by
  obtain ⟨k, hk⟩ := fuel_succ
  rw [hk, bisect_succ]
  unfold dissect_bisect_body dissect_bisect_j5
  rw [bindS hg, if_neg (by omega), bindS hr]

theorem dissectRefined_true (x1 : Int) (x2 x4 : List Int) : sparselaw18_DissectRefined x1 x2 x4 = some true := by
  unfold sparselaw18_DissectRefined
  by_cases hc : (decide ((90 : Int) < (x2.length : Int)) || decide ((60 : Int) < (x4.length : Int))) = true
  · rw [if_pos hc, awake18]; rfl
  · rw [if_neg hc]
    simp only [Bool.or_eq_true, decide_eq_true_eq] at hc
    obtain ⟨n, q1, q2⟩ := place_ok x1 9 (by omega) (by omega)
    have q1' : sparsekit_Place x1 9 = some (n : Int) := q1
    obtain ⟨adj, vx, ed, w1, hW, hlen, hvb, heb⟩ := weighted_ok (n := n) (by omega) x2 x4 (by omega)
    obtain ⟨s, g1, g2, g3, g4⟩ := grown_ok hW (by omega)
    obtain ⟨c1, c2, hT⟩ := hW.canon (B := 7) (by omega) heb
    rw [hlen] at c1 c2 hT g3
    generalize wof adj ed = W at c1 c2 hT
    have hvl := hW.vl
    have hchk := checkW_ok hW (by omega)
    subst c1
    subst c2
    rw [hlen] at hvl
    obtain ⟨o, r1, r2, r3, r4⟩ := refine_ok (by omega) hT (by omega) hvl g3 g4
    have hb := bisect_few (by omega) g1 r1
    have hB : dissect_Bisect (cadj n W) vx (ced n W) = some (o, 0) := by
      unfold dissect_Bisect
      rw [bindS hchk, if_pos rfl, bindS hb]
      simp only [if_true]
    have cut1 := cut_ok (by omega) hT (by omega) hW r2 r3
    have cut2 := cut_ok (by omega) hT (by omega) hW g3 g4
    rw [bindS q1', bindS w1]
    simp only
    rw [bindS hB]
    simp only
    rw [if_neg (by simp; omega), bindS cut1, bindS g2, bindS cut2]
    simp [r4, awake18]
end Pd
