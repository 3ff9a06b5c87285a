/- Repeat; the matching of heavy edges; the law on it. -/
import Derived.Test.YthpeajepbffinaaGreatPdA
import Derived.KernelRfl
set_option linter.unusedSimpArgs false
set_option linter.unusedVariables false
namespace Pd
open Pl Sx Go M Vc

theorem awake18 : sparselaw18_awake = some true := by kernel_rfl

theorem mul_all : ((List.range 1001).all fun n => math_bits_Mul64 1 (n : Int) == some (0, (n : Int))) = true := by kernel_rfl
theorem mul_one {n : Nat} (hn : n ≤ 1000) : math_bits_Mul 1 (n : Int) = some (0, (n : Int)) := by
 have h := List.all_eq_true.1 mul_all n (List.mem_range.2 (by omega))
 have h' : math_bits_Mul64 1 (n : Int) = some (0, (n : Int)) := by simpa using h
 unfold math_bits_Mul
 rw [bindS h']

theorem cpI_ok {β : Type} {l m : List β} {lo hi : Nat} (h1 : lo ≤ hi) (h2 : hi ≤ l.length) : cpI l (lo : Int) (hi : Int) m = some (l.take lo ++ m.take (hi - lo) ++ l.drop (lo + min m.length (hi - lo)), ((min m.length (hi - lo) : Nat) : Int)) := by
 unfold cpI
 rw [if_pos (by omega)]
 simp only [Int.toNat_natCast]

theorem repeat_ok {n : Nat} (hn : n ≤ 1000) (x : Int) : slices_Repeat_int [x] (n : Int) = some (List.replicate n x) := by
 unfold slices_Repeat_int slices_Repeat_int_j1 slices_Repeat_int_j3
 have e1 : wc .u64 (([x] : List Int).length : Int) = 1 := rfl
 have e2 : wc .u64 (n : Int) = (n : Int) := IntWalk.u64_in _ (by omega)
 have e3 : wc .i64 (n : Int) = (n : Int) := IntWalk.i64_in _ (by omega)
 have e4 : (decide ((0 : Int) < 0) || decide ((9223372036854775807 : Int) < (n : Int))) = false := by simp; omega
 rw [if_neg (by omega), e1, e2, bindS (mul_one hn)]
 simp only [e3, e4, Bool.false_eq_true, if_false]
 rw [bindS (mkL_nat 0 n (by omega))]
 have hrl : (List.replicate n (0 : Int)).length = n := by simp
 have e5 : cpI (List.replicate n (0 : Int)) 0 (((List.replicate n (0 : Int)).length : Nat) : Int) [x] = some (List.replicate (min 1 n) x ++ List.replicate (n - min 1 n) 0, ((min 1 n : Nat) : Int)) := by
  have := cpI_ok (l := List.replicate n (0 : Int)) (m := [x]) (lo := 0) (hi := n) (by omega) (by simp)
  rw [hrl]
  rw [show ((0 : Nat) : Int) = 0 from rfl] at this
  rw [this]
  congr 2
  simp only [List.take_zero, List.nil_append, Nat.sub_zero, Nat.zero_add, List.length_singleton, List.drop_replicate]
  cases n with
  | zero => simp
  | succ n => simp [Nat.min_eq_left]
 rw [bindS e5]
 simp only
 by_cases h0 : n = 0
 ·subst h0
  have : loop slices_Repeat_int_l4 (List.replicate (min 1 0) x ++ List.replicate (0 - min 1 0) 0, ((min 1 0 : Nat) : Int)) = some [] := by
   refine Ret.eq ?_
   refine ret_loop 0 (fun k (t : List Int × Int) => t = ([], 0)) rfl ?_
   rintro k _ hk rfl
   unfold slices_Repeat_int_l4
   simp only [ret_bind, ret_if, ret_get, ret_set, ret_app, ret_mkL, ret_sli, ret_wr, ret_wq, ret_some, vq_l, vq_r, Int.toNat_natCast, if_true, if_false, obs, decide_false, decide_true, Bool.false_eq_true, Bool.not_true, Bool.not_false, not_true_eq_false, not_false_eq_true, true_implies, false_implies, reduceCtorEq, true_and, and_true, false_and, or_false, false_or, implies_true]
   simp
  rw [bindS this]; rfl
 ·have hm : min 1 n = 1 := by omega
  rw [hm]
  have : loop slices_Repeat_int_l4 (List.replicate 1 x ++ List.replicate (n - 1) 0, ((1 : Nat) : Int)) = some (List.replicate n x) := by
   refine Ret.eq ?_
   refine ret_loop n (fun j (t : List Int × Int) => ∃ k : Nat, t = (List.replicate k x ++ List.replicate (n - k) 0, (k : Int)) ∧ k ≤ n ∧ j + 1 ≤ k) ⟨1, rfl, by omega, by omega⟩ ?_
   rintro j _ hj ⟨k, rfl, hk1, hk2⟩
   unfold slices_Repeat_int_l4
   have hlen : (List.replicate k x ++ List.replicate (n - k) (0 : Int)).length = n := by simp; omega
   simp only [hlen]
   by_cases hkn : k < n
   ·have e6 : (k : Int) < (n : Int) := by omega
    have s1 : sli (List.replicate k x ++ List.replicate (n - k) (0 : Int)) (k : Int) (n : Int) = some (List.replicate (n - k) 0) := by
     unfold sli subL
     rw [if_pos (by rw [hlen]; omega), Int.toNat_natCast, Int.toNat_natCast, List.take_of_length_le (by omega)]
     rw [List.drop_left' (by simp)]
    have s2 : sli (List.replicate k x ++ List.replicate (n - k) (0 : Int)) 0 (k : Int) = some (List.replicate k x) := by
     unfold sli subL
     rw [if_pos (by rw [hlen]; omega), Int.toNat_natCast, List.take_left' (by simp)]
     rfl
    have s3 := cpI_ok (l := List.replicate k x ++ List.replicate (n - k) (0 : Int)) (m := List.replicate k x) (lo := k) (hi := n) (by omega) (by omega)
    rw [List.take_left' (by simp)] at s3
    have s4 : List.replicate k x ++ (List.replicate k x).take (n - k) ++ (List.replicate k x ++ List.replicate (n - k) (0 : Int)).drop (k + min (List.replicate k x).length (n - k)) = List.replicate (k + min k (n - k)) x ++ List.replicate (n - (k + min k (n - k))) 0 := by
     rw [List.take_replicate, List.length_replicate, ← List.drop_drop, List.drop_left' (by simp), List.drop_replicate, List.replicate_append_replicate, Nat.min_comm (n - k) k]
     congr 2
     omega
    rw [s4, List.length_replicate] at s3
    have hw : wa .i64 (k : Int) ((min k (n - k) : Nat) : Int) = ((k + min k (n - k) : Nat) : Int) := by rw [wa_i (by omega) (by omega)]; omega
    simp only [ret_bind, ret_if, ret_get, ret_set, ret_app, ret_mkL, ret_sli, ret_wr, ret_wq, ret_some, vq_l, vq_r, Int.toNat_natCast, if_true, if_false, obs, decide_false, decide_true, Bool.false_eq_true, Bool.not_true, Bool.not_false, not_true_eq_false, not_false_eq_true, true_implies, false_implies, reduceCtorEq, true_and, and_true, false_and, or_false, false_or, implies_true, e6, s1, s2, s3, hw]
    exact ⟨by omega, k + min k (n - k), rfl, by omega, by omega⟩
   ·have e6 : ¬ (k : Int) < (n : Int) := by omega
    have : k = n := by omega
    subst this
    simp only [ret_bind, ret_if, ret_get, ret_set, ret_app, ret_mkL, ret_sli, ret_wr, ret_wq, ret_some, vq_l, vq_r, Int.toNat_natCast, if_true, if_false, obs, decide_false, decide_true, Bool.false_eq_true, Bool.not_true, Bool.not_false, not_true_eq_false, not_false_eq_true, true_implies, false_implies, reduceCtorEq, true_and, and_true, false_and, or_false, false_or, implies_true, e6]
    simp
  rw [bindS this]

/-! ### the matching -/
structure Mt (adj : List (List Int)) (m : List Int) : Prop where
 len : m.length = adj.length
 mate : ∀ (v : Nat) u, m[v]? = some u → (0 ≤ u ∧ u < adj.length) ∧ m[u.toNat]? = some (v : Int) ∧ (u ≠ v → ∃ l, adj[v]? = some l ∧ u ∈ l)
 mx : ∀ (v : Nat) l u, adj[v]? = some l → u ∈ l → m[v]? = some (v : Int) → m[u.toNat]? ≠ some u

/-- a list of mates (neighbours or not) -/
structure Ml (n : Nat) (m : List Int) : Prop where
 len : m.length = n
 mate : ∀ (v : Nat) u, m[v]? = some u → (0 ≤ u ∧ u < n) ∧ m[u.toNat]? = some (v : Int)
theorem Mt.ml {adj : List (List Int)} {m : List Int} {n : Nat} (h : Mt adj m) (hn : adj.length = n) : Ml n m := by
 subst hn
 exact ⟨h.len, fun v u hu => ⟨(h.mate v u hu).1, (h.mate v u hu).2.1⟩⟩

/-- on the way -/
structure Mw (adj : List (List Int)) (k : Nat) (m : List Int) : Prop where
 len : m.length = adj.length
 mate : ∀ (v : Nat) u, m[v]? = some u → u = -1 ∨ ((0 ≤ u ∧ u < adj.length) ∧ m[u.toNat]? = some (v : Int) ∧ (u ≠ v → ∃ l, adj[v]? = some l ∧ u ∈ l))
 all : ∀ (v : Nat), v < k → m[v]? ≠ some (-1)
 mx : ∀ (v : Nat) l u, adj[v]? = some l → u ∈ l → m[v]? = some (v : Int) → m[u.toNat]? ≠ some (-1) ∧ m[u.toNat]? ≠ some u

theorem best_loop {adj : List (List Int)} {vx : List Int} {ed : List (List Int)} (h : Wt adj vx ed) {v : Nat} (hv : v < adj.length) {l : List Int} (hl : adj[v]? = some l) {m : List Int} (hm : m.length = adj.length) (hn : adj.length ≤ 1000) :
  Ret (loop (dissect_match_l65 l m ed (v : Int)) ((v : Int), 0, 0)) (fun b => (b = v ∧ ∀ u, u ∈ l → m[u.toNat]? ≠ some (-1)) ∨ (b ∈ l ∧ m[b.toNat]? = some (-1))) := by
 obtain ⟨l', e, h1, h2, h3⟩ := h.row hv
 rw [hl] at h1
 obtain rfl := Option.some.inj h1
 have hll := h.gr.len hl
 refine ret_loop l.length (fun k (t : Int × Int × Int) => t.2.2 = k ∧ ((t.1 = v ∧ t.2.1 = 0 ∧ ∀ (j : Nat) u, j < k → l[j]? = some u → m[u.toNat]? ≠ some (-1)) ∨ (t.1 ∈ l ∧ m[t.1.toNat]? = some (-1)))) ⟨rfl, .inl ⟨rfl, rfl, fun j u hj => by omega⟩⟩ ?_
 rintro k ⟨b, w, i⟩ hk ⟨rfl, hI⟩
 simp only at hI
 unfold dissect_match_l65 dissect_match_j67
 by_cases hkl : k < l.length
 ·obtain ⟨u, hu⟩ : ∃ u, l[k]? = some u := ⟨l[k], by simp [hkl]⟩
  obtain ⟨x, hx⟩ : ∃ x, e[k]? = some x := ⟨e[k]'(by omega), by simp [show k < e.length by omega]⟩
  have hur := h.gr.rng v l u hl (mem_get hu)
  have hxw := h.er e (mem_get h2) x (mem_get hx)
  obtain ⟨q, hq⟩ : ∃ q, m[u.toNat]? = some q := ⟨m[u.toNat]'(by omega), by simp [show u.toNat < m.length by omega]⟩
  have e1 : getI l (k : Int) = some u := hu
  have e2 : getI m u = some q := getI_of hur.1 hq
  have e3 : getI ed (v : Int) = some e := h2
  have e4 : getI e (k : Int) = some x := hx
  have e5 : (k : Int) < (l.length : Int) := by omega
  have hw : wa .i64 (k : Int) 1 = ((k + 1 : Nat) : Int) := wa1 (by omega)
  by_cases hq1 : q = -1
  ·subst hq1
   by_cases hwx : w < x
   ·simp only [ret_bind, ret_if, ret_get, ret_set, ret_app, ret_mkL, ret_sli, ret_wr, ret_wq, ret_some, vq_l, vq_r, Int.toNat_natCast, if_true, if_false, obs, decide_false, decide_true, Bool.false_eq_true, Bool.not_true, Bool.not_false, not_true_eq_false, not_false_eq_true, true_implies, false_implies, reduceCtorEq, true_and, and_true, false_and, or_false, false_or, implies_true, e1, e2, e3, e4, e5, hwx, hw]
    exact ⟨hkl, .inr ⟨mem_get hu, hq⟩⟩
   ·simp only [ret_bind, ret_if, ret_get, ret_set, ret_app, ret_mkL, ret_sli, ret_wr, ret_wq, ret_some, vq_l, vq_r, Int.toNat_natCast, if_true, if_false, obs, decide_false, decide_true, Bool.false_eq_true, Bool.not_true, Bool.not_false, not_true_eq_false, not_false_eq_true, true_implies, false_implies, reduceCtorEq, true_and, and_true, false_and, or_false, false_or, implies_true, e1, e2, e3, e4, e5, hwx, hw]
    refine ⟨hkl, ?_⟩
    rcases hI with ⟨_, h5, _⟩ | h5
    ·unfold Wg at hxw; omega
    ·exact .inr h5
  ·simp only [ret_bind, ret_if, ret_get, ret_set, ret_app, ret_mkL, ret_sli, ret_wr, ret_wq, ret_some, vq_l, vq_r, Int.toNat_natCast, if_true, if_false, obs, decide_false, decide_true, Bool.false_eq_true, Bool.not_true, Bool.not_false, not_true_eq_false, not_false_eq_true, true_implies, false_implies, reduceCtorEq, true_and, and_true, false_and, or_false, false_or, implies_true, e1, e2, e5, hq1, hw]
   refine ⟨hkl, hI.imp (fun ⟨h5, h6, h7⟩ => ⟨h5, h6, fun j u' hj hu' => ?_⟩) id⟩
   by_cases hjk : j = k
   ·subst hjk
    rw [hu] at hu'
    obtain rfl := Option.some.inj hu'
    rw [hq]
    simpa using hq1
   ·exact h7 j u' (by omega) hu'
 ·have e5 : ¬ (k : Int) < (l.length : Int) := by omega
  simp only [ret_bind, ret_if, ret_get, ret_set, ret_app, ret_mkL, ret_sli, ret_wr, ret_wq, ret_some, vq_l, vq_r, Int.toNat_natCast, if_true, if_false, obs, decide_false, decide_true, Bool.false_eq_true, Bool.not_true, Bool.not_false, not_true_eq_false, not_false_eq_true, true_implies, false_implies, reduceCtorEq, true_and, and_true, false_and, or_false, false_or, implies_true, e5]
  refine hI.imp (fun ⟨h5, _, h7⟩ => ⟨h5, fun u hu => ?_⟩) id
  obtain ⟨j, hj⟩ := List.mem_iff_getElem?.1 hu
  exact h7 j u (by have := (List.getElem?_eq_some_iff.1 hj).1; omega) hj

theorem match_step {adj : List (List Int)} (hG : Gr adj) {k : Nat} {m : List Int} (h : Mw adj k m) (hk : k < adj.length) (hk1 : m[k]? = some (-1)) {l : List Int} (hl : adj[k]? = some l) {b : Int} (hb : (b = k ∧ ∀ u, u ∈ l → m[u.toNat]? ≠ some (-1)) ∨ (b ∈ l ∧ m[b.toNat]? = some (-1))) :
  Mw adj (k + 1) ((m.set k b).set b.toNat (k : Int)) := by
 have hml := h.len
 have hbr : 0 ≤ b ∧ b < adj.length := by
  rcases hb with ⟨rfl, _⟩ | ⟨h1, _⟩
  ·omega
  ·have := hG.rng k l b hl h1; omega
 have hb1 : m[b.toNat]? = some (-1) := by
  rcases hb with ⟨rfl, _⟩ | ⟨_, h1⟩
  ·simpa using hk1
  ·exact h1
 have hbl : b ≠ k → b ∈ l := by
  rcases hb with ⟨rfl, _⟩ | ⟨h1, _⟩
  ·intro h; exact absurd rfl h
  ·intro _; exact h1
 have get : ∀ (v : Nat), ((m.set k b).set b.toNat (k : Int))[v]? = if v = b.toNat then some (k : Int) else if v = k then some b else m[v]? := by
  intro v
  rw [List.getElem?_set, List.getElem?_set]
  by_cases h1 : v = b.toNat
  ·rw [if_pos h1.symm, if_pos (by simp; omega), if_pos h1]
  ·rw [if_neg (fun h => h1 h.symm), if_neg h1]
   by_cases h2 : v = k
   ·rw [if_pos h2.symm, if_pos (by omega), if_pos h2]
   ·rw [if_neg (fun h => h2 h.symm), if_neg h2]
 refine ⟨by simp [hml], ?_, ?_, ?_⟩
 ·intro v u hu
  rw [get] at hu
  by_cases h1 : v = b.toNat
  ·rw [if_pos h1] at hu
   obtain rfl := Option.some.inj hu
   refine .inr ⟨by omega, ?_, fun hne => ?_⟩
   ·rw [get, Int.toNat_natCast]
    by_cases h2 : k = b.toNat
    ·rw [if_pos h2]; congr 1; omega
    ·rw [if_neg h2, if_pos rfl]; congr 1; omega
   ·have hbk : b ≠ k := by omega
    obtain ⟨m', hm1, hm2⟩ := hG.sym k l b hl (hbl hbk)
    exact ⟨m', by rw [h1]; exact hm1, hm2⟩
  ·rw [if_neg h1] at hu
   by_cases h2 : v = k
   ·rw [if_pos h2] at hu
    obtain rfl := Option.some.inj hu
    refine .inr ⟨hbr, ?_, fun hne => ⟨l, by rw [h2]; exact hl, hbl (by omega)⟩⟩
    rw [get, if_pos rfl, h2]
   ·rw [if_neg h2] at hu
    rcases h.mate v u hu with rfl | ⟨h3, h4, h5⟩
    ·exact .inl rfl
    ·refine .inr ⟨h3, ?_, h5⟩
     rw [get]
     have hub : u.toNat ≠ b.toNat := by
      intro he
      rw [he, hb1] at h4
      have := Option.some.inj h4; omega
     have huk : u.toNat ≠ k := by
      intro he
      rw [he, hk1] at h4
      have := Option.some.inj h4; omega
     rw [if_neg hub, if_neg huk]; exact h4
 ·intro v hv
  rw [get]
  by_cases h1 : v = b.toNat
  ·rw [if_pos h1]; intro h; have := Option.some.inj h; omega
  ·rw [if_neg h1]
   by_cases h2 : v = k
   ·rw [if_pos h2]; intro h; have := Option.some.inj h; omega
   ·rw [if_neg h2]; exact h.all v (by omega)
 ·intro v l' u hl' hu hv
  rw [get] at hv
  have hur := hG.rng v l' u hl' hu
  by_cases h1 : v = b.toNat
  ·rw [if_pos h1] at hv
   have hvk := Option.some.inj hv
   have hvk' : v = k := by omega
   subst hvk'
   rw [hl] at hl'
   obtain rfl := Option.some.inj hl'
   rcases hb with ⟨_, hall⟩ | ⟨hbm, _⟩
   ·have h3 := hall u hu
    rw [get, if_neg (by omega), if_neg (by omega)]
    refine ⟨h3, fun h4 => ?_⟩
    obtain ⟨m', hm1, hm2⟩ := hG.sym v l u hl hu
    have := (h.mx u.toNat m' (v : Int) hm1 hm2 (by rw [h4]; congr 1; omega)).1
    rw [Int.toNat_natCast] at this
    exact this hk1
   ·have := (hG.rng v l b hl hbm).2.2
    omega
  ·rw [if_neg h1] at hv
   by_cases h2 : v = k
   ·rw [if_pos h2] at hv
    have := Option.some.inj hv
    omega
   ·rw [if_neg h2] at hv
    obtain ⟨h3, h4⟩ := h.mx v l' u hl' hu hv
    have hub : u.toNat ≠ b.toNat := fun he => h3 (by rw [he]; exact hb1)
    have huk : u.toNat ≠ k := fun he => h3 (by rw [he]; exact hk1)
    rw [get, if_neg hub, if_neg huk]
    exact ⟨h3, h4⟩
theorem match_ok {adj : List (List Int)} {vx : List Int} {ed : List (List Int)} (h : Wt adj vx ed) (hn : adj.length ≤ 200) : Ret (dissect_match adj vx ed) (Mt adj) := by
 unfold dissect_match
 have hvl := h.vl
 rw [hvl, bindS (repeat_ok (by omega) (-1)), ret_bind]
 simp only [ret_some]
 refine ret_loop adj.length (fun k (t : List Int × Int) => t.2 = k ∧ Mw adj k t.1) ⟨rfl, by simp, fun v u hu => .inl (List.mem_replicate.1 (mem_get hu)).2, fun v hv => by omega, fun v l u _ _ hv => by
  have := (List.mem_replicate.1 (mem_get hv)).2; omega⟩ ?_
 rintro k ⟨m, i⟩ hk ⟨rfl, hI⟩
 simp only at hI
 have hml := hI.len
 unfold dissect_match_l45 dissect_match_j60
 by_cases hkn : k < adj.length
 ·obtain ⟨l, hl⟩ : ∃ l, adj[k]? = some l := ⟨adj[k], by simp [hkn]⟩
  obtain ⟨q, hq⟩ : ∃ q, m[k]? = some q := ⟨m[k]'(by omega), by simp [show k < m.length by omega]⟩
  have e1 : getI adj (k : Int) = some l := hl
  have e2 : getI m (k : Int) = some q := hq
  have e5 : (k : Int) < (adj.length : Int) := by omega
  have hw : wa .i64 (k : Int) 1 = ((k + 1 : Nat) : Int) := wa1 (by omega)
  by_cases hq1 : q = -1
  ·subst hq1
   simp only [ret_bind, ret_if, ret_of e1, ret_of e2, e5, true_implies, not_true_eq_false, false_implies, and_true]
   refine ret_call (best_loop h hkn hl hml (by omega)) ?_
   intro b hb
   have hbr : 0 ≤ b ∧ b < adj.length := by
    rcases hb with ⟨rfl, _⟩ | ⟨h1, _⟩
    ·omega
    ·have := h.gr.rng k l b hl h1; omega
   have e3 : setI m (k : Int) b = some (m.set k b) := setI_lt (by omega)
   have e4 : setI (m.set k b) b (k : Int) = some ((m.set k b).set b.toNat (k : Int)) := setI_of hbr.1 (by simp; omega)
   rw [ret_of e3, ret_of e4, ret_some, vq_l, hw]
   exact ⟨hkn, rfl, match_step h.gr hI hkn hq hl hb⟩
  ·simp only [ret_bind, ret_if, ret_get, ret_set, ret_app, ret_mkL, ret_sli, ret_wr, ret_wq, ret_some, vq_l, vq_r, Int.toNat_natCast, if_true, if_false, obs, decide_false, decide_true, Bool.false_eq_true, Bool.not_true, Bool.not_false, not_true_eq_false, not_false_eq_true, true_implies, false_implies, reduceCtorEq, true_and, and_true, false_and, or_false, false_or, implies_true, e1, e2, e5, hq1, hw]
   refine ⟨hkn, hI.len, hI.mate, fun v hv => ?_, hI.mx⟩
   by_cases hvk : v = k
   ·subst hvk; rw [hq]; simpa using hq1
   ·exact hI.all v (by omega)
 ·have e5 : ¬ (k : Int) < (adj.length : Int) := by omega
  have : k = adj.length := by omega
  subst this
  simp only [ret_bind, ret_if, ret_get, ret_set, ret_app, ret_mkL, ret_sli, ret_wr, ret_wq, ret_some, vq_l, vq_r, Int.toNat_natCast, if_true, if_false, obs, decide_false, decide_true, Bool.false_eq_true, Bool.not_true, Bool.not_false, not_true_eq_false, not_false_eq_true, true_implies, false_implies, reduceCtorEq, true_and, and_true, false_and, or_false, false_or, implies_true, e5]
  refine ⟨hml, fun v u hu => ?_, fun v l u h1 h2 h3 => (hI.mx v l u h1 h2 h3).2⟩
  rcases hI.mate v u hu with rfl | h1
  ·exact absurd hu (hI.all v (by have := (List.getElem?_eq_some_iff.1 hu).1; omega))
  ·exact h1

theorem pMatch_ok {adj : List (List Int)} {vx : List Int} {ed : List (List Int)} (h : Wt adj vx ed) (hn : adj.length ≤ 200) : ∃ m, dissect_match adj vx ed = some m ∧ dissect_Match adj vx ed = some (m, 0) ∧ Mt adj m := by
 obtain ⟨m, h1, h2⟩ := match_ok h hn
 refine ⟨m, h1, ?_, h2⟩
 unfold dissect_Match
 rw [bindS (checkW_ok h hn), if_pos rfl, bindS h1]

theorem kin_e {l : List Int} {v : Int} (hl : l.length ≤ 100000) : sparsekit_In l v = some (decide (v ∈ l)) := by
 refine Ret.eq ?_
 unfold sparsekit_In
 simp only [ret_bind]
 refine ret_loop l.length (fun k (t : Int) => t = k ∧ v ∉ l.take k) (by simp) ?_
 intro k t hk hI
 unfold sparsekit_In_l1
 simp only [ret_bind, ret_if, ret_get, ret_some, vq_l, vq_r]
 grind [List.take_add_one, List.mem_iff_getElem?]

end Pd
