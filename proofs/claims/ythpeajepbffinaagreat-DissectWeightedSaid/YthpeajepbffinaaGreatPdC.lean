/- Finite sums; weighted graphs as tables of weights. -/
import Derived.Test.YthpeajepbffinaaGreatPdA
set_option linter.unusedSimpArgs false
set_option linter.unusedVariables false
namespace Pd
open Pl Sx Go M Vc

/-! ### sums -/
def sm : Nat → (Nat → Int) → Int
 | 0, _ => 0
 | n + 1, f => sm n f + f n
theorem sm_congr {n : Nat} {f g : Nat → Int} (h : ∀ i, i < n → f i = g i) : sm n f = sm n g := by
 induction n with
 | zero => rfl
 | succ n ih => rw [sm, sm, ih (fun i hi => h i (by omega)), h n (by omega)]
theorem sm_zero {n : Nat} {f : Nat → Int} (h : ∀ i, i < n → f i = 0) : sm n f = 0 := by
 induction n with
 | zero => rfl
 | succ n ih => rw [sm, ih (fun i hi => h i (by omega)), h n (by omega)]; rfl
theorem sm_add {n : Nat} {f g : Nat → Int} : sm n (fun i => f i + g i) = sm n f + sm n g := by
 induction n with
 | zero => rfl
 | succ n ih => simp only [sm, ih]; omega
theorem sm_swap {n m : Nat} {f : Nat → Nat → Int} : sm n (fun i => sm m fun j => f i j) = sm m (fun j => sm n fun i => f i j) := by
 induction n with
 | zero => exact (sm_zero fun _ _ => rfl).symm
 | succ n ih => simp only [sm]; rw [ih, sm_add]
theorem sm_nonneg {n : Nat} {f : Nat → Int} (h : ∀ i, i < n → 0 ≤ f i) : 0 ≤ sm n f := by
 induction n with
 | zero => exact Int.le_refl _
 | succ n ih => have := ih (fun i hi => h i (by omega)); have := h n (by omega); simp only [sm]; omega
theorem sm_bound {n : Nat} {f : Nat → Int} {B : Int} (h : ∀ i, i < n → f i ≤ B) : sm n f ≤ n * B := by
 induction n with
 | zero => simp [sm]
 | succ n ih =>
  have h1 := ih (fun i hi => h i (by omega)); have h2 := h n (by omega)
  simp only [sm]
  have : ((n + 1 : Nat) : Int) * B = n * B + B := by rw [Int.natCast_add, Int.add_mul]; omega
  omega
/-- one term -/
theorem sm_one {n a : Nat} {x : Int} (h : a < n) : sm n (fun i => if a = i then x else 0) = x := by
 induction n with
 | zero => omega
 | succ n ih =>
  rw [sm]
  by_cases ha : a = n
  ·subst ha
   rw [if_pos rfl, sm_zero (fun i hi => by rw [if_neg (by omega)])]; omega
  ·rw [if_neg ha, ih (by omega)]; omega
theorem sm_pos {n : Nat} {f : Nat → Int} (h : ∀ i, i < n → 0 ≤ f i) {a : Nat} (ha : a < n) : f a ≤ sm n f := by
 induction n with
 | zero => omega
 | succ n ih =>
  rw [sm]
  have h1 := sm_nonneg (n := n) (f := f) (fun i hi => h i (by omega))
  by_cases he : a = n
  ·subst he; omega
  ·have := ih (fun i hi => h i (by omega)) (by omega)
   have := h n (by omega)
   omega
/-- the sum of a symmetric table that is zero on the diagonal is twice its part below -/
theorem sm_half {n : Nat} {f : Nat → Nat → Int} (hs : ∀ i j, i < n → j < n → f i j = f j i) (hd : ∀ i, i < n → f i i = 0) :
  sm n (fun i => sm n fun j => f i j) = 2 * sm n (fun i => sm n fun j => if j < i then f i j else 0) := by
 have h1 : sm n (fun i => sm n fun j => f i j) = sm n (fun i => sm n fun j => (if j < i then f i j else 0)) + sm n (fun i => sm n fun j => (if i < j then f i j else 0)) := by
  rw [← sm_add]
  refine sm_congr fun i hi => ?_
  rw [← sm_add]
  refine sm_congr fun j hj => ?_
  by_cases h1 : j < i
  ·rw [if_pos h1, if_neg (by omega)]; omega
  ·by_cases h2 : i < j
   ·rw [if_neg h1, if_pos h2]; omega
   ·have : i = j := by omega
    subst this
    rw [hd i hi]; simp
 have h2 : sm n (fun i => sm n fun j => (if i < j then f i j else 0)) = sm n (fun i => sm n fun j => (if j < i then f i j else 0)) := by
  rw [sm_swap]
  refine sm_congr fun j hj => sm_congr fun i hi => ?_
  by_cases h : i < j
  ·rw [if_pos h, if_pos h, hs i j hi hj]
  ·rw [if_neg h, if_neg h]
 rw [h1, h2]; omega

/-! ### tables of weights -/
def nbs (n : Nat) (f : Nat → Int) : List Nat := (List.range n).filter fun u => decide (0 < f u)
theorem nbs_mem {n : Nat} {f : Nat → Int} {u : Nat} : u ∈ nbs n f ↔ u < n ∧ 0 < f u := by simp [nbs]
theorem nbs_succ {n : Nat} {f : Nat → Int} : nbs (n + 1) f = if 0 < f n then nbs n f ++ [n] else nbs n f := by
 unfold nbs
 rw [List.range_succ, List.filter_append]
 by_cases h : 0 < f n
 ·simp [h]
 ·simp [h]
theorem nbs_asc {n : Nat} {f : Nat → Int} : (nbs n f).Pairwise (· < ·) := List.Pairwise.filter _ (List.pairwise_lt_range)
theorem nbs_len {n : Nat} {f : Nat → Int} : (nbs n f).length ≤ n := by
 have := List.length_filter_le (fun u => decide (0 < f u)) (List.range n)
 simpa [nbs] using this
/-- a sum along a row -/
theorem nbs_sum {n : Nat} {f : Nat → Int} {g : Nat → Int} : ((nbs n f).map g).sum = sm n (fun u => if 0 < f u then g u else 0) := by
 induction n with
 | zero => rfl
 | succ n ih =>
  rw [nbs_succ, sm, ← ih]
  by_cases h : 0 < f n
  ·rw [if_pos h, if_pos h, List.map_append, List.sum_append]; simp
  ·rw [if_neg h, if_neg h]; omega

def cadj (n : Nat) (W : Nat → Nat → Int) : List (List Int) := (List.range n).map fun v => (nbs n (W v)).map Int.ofNat
def ced (n : Nat) (W : Nat → Nat → Int) : List (List Int) := (List.range n).map fun v => (nbs n (W v)).map (W v)
theorem cadj_get {n : Nat} {W : Nat → Nat → Int} {v : Nat} (h : v < n) : (cadj n W)[v]? = some ((nbs n (W v)).map Int.ofNat) := by simp [cadj, h]
theorem ced_get {n : Nat} {W : Nat → Nat → Int} {v : Nat} (h : v < n) : (ced n W)[v]? = some ((nbs n (W v)).map (W v)) := by simp [ced, h]
theorem cadj_len {n : Nat} {W : Nat → Nat → Int} : (cadj n W).length = n := by simp [cadj]
theorem ced_len {n : Nat} {W : Nat → Nat → Int} : (ced n W).length = n := by simp [ced]

/-- a table of weights -/
structure Tw (n : Nat) (W : Nat → Nat → Int) (B : Int) : Prop where
 nn : ∀ v u, v < n → u < n → 0 ≤ W v u ∧ W v u ≤ B
 sym : ∀ v u, v < n → u < n → W v u = W u v
 dg : ∀ v, v < n → W v v = 0

theorem cadj_gr {n : Nat} {W : Nat → Nat → Int} {B : Int} (h : Tw n W B) : Gr (cadj n W) := by
 have hg : ∀ (v : Nat) l, (cadj n W)[v]? = some l → v < n ∧ l = (nbs n (W v)).map Int.ofNat := by
  intro v l hv
  have hvn : v < n := by have := (List.getElem?_eq_some_iff.1 hv).1; rwa [cadj_len] at this
  rw [cadj_get hvn] at hv
  exact ⟨hvn, (Option.some.inj hv).symm⟩
 refine ⟨?_, ?_, ?_⟩
 ·intro v l hv
  obtain ⟨_, rfl⟩ := hg v l hv
  rw [List.pairwise_map]
  exact nbs_asc.imp fun {a b} h => by show (a : Int) < (b : Int); omega
 ·intro v l x hv hx
  obtain ⟨hvn, rfl⟩ := hg v l hv
  obtain ⟨u, hu, rfl⟩ := List.mem_map.1 hx
  obtain ⟨h1, h2⟩ := nbs_mem.1 hu
  rw [cadj_len]
  refine ⟨Int.natCast_nonneg u, by show (u : Int) < n; omega, ?_⟩
  intro he
  have : u = v := by have : (u : Int) = v := he; omega
  subst this
  rw [h.dg u hvn] at h2; omega
 ·intro v l x hv hx
  obtain ⟨hvn, rfl⟩ := hg v l hv
  obtain ⟨u, hu, rfl⟩ := List.mem_map.1 hx
  obtain ⟨h1, h2⟩ := nbs_mem.1 hu
  refine ⟨(nbs n (W u)).map Int.ofNat, cadj_get h1, List.mem_map.2 ⟨v, nbs_mem.2 ⟨hvn, by rw [← h.sym v u hvn h1]; exact h2⟩, rfl⟩⟩

theorem canon_wt {n : Nat} {W : Nat → Nat → Int} (h : Tw n W 1099511627776) {vx : List Int} (hv : vx.length = n) (hw : ∀ x, x ∈ vx → Wg x) : Wt (cadj n W) vx (ced n W) := by
 refine ⟨cadj_gr h, by rw [cadj_len]; exact hv, by rw [cadj_len, ced_len], hw, ?_, ?_, ?_⟩
 ·intro v l e hl he
  have hvn : v < n := by have := (List.getElem?_eq_some_iff.1 hl).1; rwa [cadj_len] at this
  rw [cadj_get hvn] at hl
  rw [ced_get hvn] at he
  obtain rfl := Option.some.inj hl
  obtain rfl := Option.some.inj he
  simp
 ·intro e he x hx
  obtain ⟨v, hv'⟩ := List.mem_iff_getElem?.1 he
  have hvn : v < n := by have := (List.getElem?_eq_some_iff.1 hv').1; rwa [ced_len] at this
  rw [ced_get hvn] at hv'
  obtain rfl := Option.some.inj hv'
  obtain ⟨u, hu, rfl⟩ := List.mem_map.1 hx
  obtain ⟨h1, h2⟩ := nbs_mem.1 hu
  have := h.nn v u hvn h1
  exact ⟨by omega, this.2⟩
 ·intro v k l e u x hl he hu hx
  have hvn : v < n := by have := (List.getElem?_eq_some_iff.1 hl).1; rwa [cadj_len] at this
  rw [cadj_get hvn] at hl
  rw [ced_get hvn] at he
  obtain rfl := Option.some.inj hl
  obtain rfl := Option.some.inj he
  rw [List.getElem?_map] at hu hx
  cases hk : (nbs n (W v))[k]? with
  | none => rw [hk] at hu; cases hu
  | some q =>
   rw [hk] at hu hx
   obtain rfl := Option.some.inj hu
   obtain rfl := Option.some.inj hx
   obtain ⟨h1, h2⟩ := nbs_mem.1 (List.mem_of_getElem? hk)
   have hm : v ∈ nbs n (W q) := nbs_mem.2 ⟨hvn, by rw [← h.sym v q hvn h1]; exact h2⟩
   obtain ⟨k', hk'⟩ := List.mem_iff_getElem?.1 hm
   refine ⟨(nbs n (W q)).map Int.ofNat, (nbs n (W q)).map (W q), k', ?_, ?_, ?_, ?_⟩
   ·show (cadj n W)[q]? = _
    exact cadj_get h1
   ·show (ced n W)[q]? = _
    exact ced_get h1
   ·rw [List.getElem?_map, hk']; rfl
   ·rw [List.getElem?_map, hk']
    show some (W q v) = some (W v q)
    rw [h.sym v q hvn h1]

/-- the weight of a neighbour -/
def lk : List Int → List Int → Int → Int
 | x :: l, y :: e, u => if x = u then y else lk l e u
 | _, _, _ => 0
theorem lk_get {l e : List Int} (hd : l.Nodup) : ∀ {k : Nat} {u x : Int}, l[k]? = some u → e[k]? = some x → lk l e u = x := by
 induction l generalizing e with
 | nil => intro k u x h; simp at h
 | cons y l ih =>
  intro k u x hu hx
  obtain ⟨h1, h2⟩ := List.nodup_cons.1 hd
  cases e with
  | nil => simp at hx
  | cons z e =>
   cases k with
   | zero => simp at hu hx; subst hu hx; simp [lk]
   | succ k =>
    simp only [List.getElem?_cons_succ] at hu hx
    rw [lk, if_neg (fun he => h1 (by rw [he]; exact List.mem_of_getElem? hu))]
    exact ih h2 hu hx
theorem lk_no {l e : List Int} : ∀ {u : Int}, u ∉ l → lk l e u = 0 := by
 induction l generalizing e with
 | nil => intro u _; simp [lk]
 | cons y l ih =>
  intro u hu
  cases e with
  | nil => simp [lk]
  | cons z e =>
   rw [lk, if_neg (fun he => hu (by rw [he]; simp))]
   exact ih (fun h => hu (by simp [h]))
def wof (adj ed : List (List Int)) (v u : Nat) : Int := lk (adj[v]?.getD []) (ed[v]?.getD []) (u : Int)

theorem asc_ext' {a b : List Int} (ha : a.Pairwise (· < ·)) (hb : b.Pairwise (· < ·)) (h : ∀ x, x ∈ a ↔ x ∈ b) : a = b := by
 have nd : ∀ {a : List Int}, a.Pairwise (· < ·) → a.Nodup := fun ha => (List.nodup_iff_pairwise_ne).2 (ha.imp fun h => by omega)
 have hp := (List.perm_ext_iff_of_nodup (nd ha) (nd hb)).2 h
 exact List.Perm.eq_of_pairwise (le := fun a b : Int => a < b) (fun a b _ _ h1 h2 => by omega) ha hb hp

theorem Wt.canon {adj : List (List Int)} {vx : List Int} {ed : List (List Int)} (h : Wt adj vx ed) {B : Int} (hB0 : 0 ≤ B) (hB : ∀ e, e ∈ ed → ∀ x, x ∈ e → x ≤ B) :
  adj = cadj adj.length (wof adj ed) ∧ ed = ced adj.length (wof adj ed) ∧ Tw adj.length (wof adj ed) B := by
 have hel := h.el
 have nd : ∀ {a : List Int}, a.Pairwise (· < ·) → a.Nodup := fun ha => (List.nodup_iff_pairwise_ne).2 (ha.imp fun h => by omega)
 have row : ∀ v, v < adj.length → ∃ l e, adj[v]? = some l ∧ ed[v]? = some e ∧ e.length = l.length ∧ (∀ u, wof adj ed v u = lk l e (u : Int)) ∧ l = (nbs adj.length (wof adj ed v)).map Int.ofNat ∧ e = (nbs adj.length (wof adj ed v)).map (wof adj ed v) := by
  intro v hv
  obtain ⟨l, e, h1, h2, h3⟩ := h.row hv
  have hw : ∀ u, wof adj ed v u = lk l e (u : Int) := by intro u; unfold wof; rw [h1, h2]; rfl
  have hnd := nd (h.gr.asc v l h1)
  have hpos : ∀ u : Nat, 0 < wof adj ed v u ↔ (u : Int) ∈ l := by
   intro u
   rw [hw]
   by_cases hu : (u : Int) ∈ l
   ·obtain ⟨k, hk⟩ := List.mem_iff_getElem?.1 hu
    have hkl := (List.getElem?_eq_some_iff.1 hk).1
    obtain ⟨x, hx⟩ : ∃ x, e[k]? = some x := ⟨e[k]'(by omega), by simp [show k < e.length by omega]⟩
    rw [lk_get hnd hk hx]
    have := h.er e (mem_get h2) x (mem_get hx)
    unfold Wg at this
    exact ⟨fun _ => hu, fun _ => by omega⟩
   ·rw [lk_no hu]
    exact ⟨fun h => by omega, fun h => absurd h hu⟩
  have hl : l = (nbs adj.length (wof adj ed v)).map Int.ofNat := by
   refine asc_ext' (h.gr.asc v l h1) ?_ fun x => ?_
   ·rw [List.pairwise_map]
    exact nbs_asc.imp fun {a b} h => by show (a : Int) < (b : Int); omega
   ·constructor
    ·intro hx
     obtain ⟨g1, g2, _⟩ := h.gr.rng v l x h1 hx
     obtain ⟨u, rfl⟩ := Int.eq_ofNat_of_zero_le g1
     exact List.mem_map.2 ⟨u, nbs_mem.2 ⟨by omega, (hpos u).2 hx⟩, rfl⟩
    ·intro hx
     obtain ⟨u, hu, rfl⟩ := List.mem_map.1 hx
     exact (hpos u).1 (nbs_mem.1 hu).2
  refine ⟨l, e, h1, h2, h3, hw, hl, ?_⟩
  have hll : l.length = (nbs adj.length (wof adj ed v)).length := by
   have := congrArg List.length hl
   simpa using this
  apply List.ext_getElem?
  intro k
  by_cases hk : k < e.length
  ·obtain ⟨x, hx⟩ : ∃ x, e[k]? = some x := ⟨e[k], by simp [hk]⟩
   obtain ⟨q, hq⟩ : ∃ q, (nbs adj.length (wof adj ed v))[k]? = some q := ⟨(nbs adj.length (wof adj ed v))[k]'(by omega), by simp [show k < (nbs adj.length (wof adj ed v)).length by omega]⟩
   have hlk : l[k]? = some (q : Int) := by rw [hl, List.getElem?_map, hq]; rfl
   rw [hx, List.getElem?_map, hq]
   simp only [Option.map_some]
   rw [hw, lk_get hnd hlk hx]
  ·rw [List.getElem?_eq_none (by omega), List.getElem?_eq_none (by rw [List.length_map]; omega)]
 refine ⟨?_, ?_, ?_, ?_, ?_⟩
 ·apply List.ext_getElem?
  intro v
  by_cases hv : v < adj.length
  ·obtain ⟨l, e, h1, h2, h3, hw, hl, he⟩ := row v hv
   rw [h1, cadj_get hv, ← hl]
  ·rw [List.getElem?_eq_none (by omega), List.getElem?_eq_none (by rw [cadj_len]; omega)]
 ·apply List.ext_getElem?
  intro v
  by_cases hv : v < adj.length
  ·obtain ⟨l, e, h1, h2, h3, hw, hl, he⟩ := row v hv
   rw [h2, ced_get hv, ← he]
  ·rw [List.getElem?_eq_none (by omega), List.getElem?_eq_none (by rw [ced_len]; omega)]
 ·intro v u hv hu
  obtain ⟨l, e, h1, h2, h3, hw, hl, he⟩ := row v hv
  rw [hw]
  by_cases hm : (u : Int) ∈ l
  ·obtain ⟨k, hk⟩ := List.mem_iff_getElem?.1 hm
   have hkl := (List.getElem?_eq_some_iff.1 hk).1
   obtain ⟨x, hx⟩ : ∃ x, e[k]? = some x := ⟨e[k]'(by omega), by simp [show k < e.length by omega]⟩
   rw [lk_get (nd (h.gr.asc v l h1)) hk hx]
   have := h.er e (mem_get h2) x (mem_get hx)
   have := hB e (mem_get h2) x (mem_get hx)
   unfold Wg at *
   omega
  ·rw [lk_no hm]; omega
 ·intro v u hv hu
  obtain ⟨l, e, h1, h2, h3, hw, hl, he⟩ := row v hv
  obtain ⟨l', e', h1', h2', h3', hw', hl', he'⟩ := row u hu
  rw [hw, hw']
  by_cases hm : (u : Int) ∈ l
  ·obtain ⟨k, hk⟩ := List.mem_iff_getElem?.1 hm
   have hkl := (List.getElem?_eq_some_iff.1 hk).1
   obtain ⟨x, hx⟩ : ∃ x, e[k]? = some x := ⟨e[k]'(by omega), by simp [show k < e.length by omega]⟩
   obtain ⟨l2, e2, k', f1, f2, f3, f4⟩ := h.sy v k l e _ x h1 h2 hk hx
   rw [Int.toNat_natCast] at f1 f2
   rw [h1'] at f1; rw [h2'] at f2
   obtain rfl := Option.some.inj f1
   obtain rfl := Option.some.inj f2
   rw [lk_get (nd (h.gr.asc v l h1)) hk hx, lk_get (nd (h.gr.asc u l' h1')) f3 f4]
  ·have hm' : (v : Int) ∉ l' := by
    intro hmem
    obtain ⟨m, g1, g2⟩ := h.gr.sym u l' (v : Int) h1' hmem
    rw [Int.toNat_natCast, h1] at g1
    obtain rfl := Option.some.inj g1
    exact hm g2
   rw [lk_no hm, lk_no hm']
 ·intro v hv
  obtain ⟨l, e, h1, h2, h3, hw, hl, he⟩ := row v hv
  rw [hw, lk_no]
  intro hm
  exact (h.gr.rng v l (v : Int) h1 hm).2.2 rfl
end Pd
