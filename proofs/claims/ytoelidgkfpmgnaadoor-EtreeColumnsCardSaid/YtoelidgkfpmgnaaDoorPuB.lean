/- Both checks of a graph, valid or not. -/
import Derived.Test.YtoelidgkfpmgnaaDoorPuA
set_option linter.unusedSimpArgs false
set_option linter.unusedVariables false
namespace Pu
open Pl Sx Go M Vc

def Asn (l : List Int) (n : Nat) : Prop := l.Pairwise (· < ·) ∧ ∀ x, x ∈ l → 0 ≤ x ∧ x < (n : Int)
theorem Asn.snoc {l : List Int} {x : Int} {n : Nat} : Asn (l ++ [x]) n ↔ Asn l n ∧ (∀ y, y ∈ l → y < x) ∧ 0 ≤ x ∧ x < (n : Int) := by
  unfold Asn
  rw [List.pairwise_append]
  constructor
  · rintro ⟨⟨h1, _, h2⟩, h3⟩
    have := h3 x (by simp)
    exact ⟨⟨h1, fun y hy => h3 y (by simp [hy])⟩, fun y hy => h2 y hy x (by simp), this.1, this.2⟩
  · rintro ⟨⟨h1, h2⟩, h3, h4, h5⟩
    refine ⟨⟨h1, List.pairwise_singleton _ _, fun y hy z hz => ?_⟩, fun y hy => ?_⟩
    · rw [List.mem_singleton] at hz; subst hz; exact h3 y hy
    · rw [List.mem_append, List.mem_singleton] at hy
      rcases hy with hy | rfl
      · exact h2 y hy
      · exact ⟨h4, h5⟩
theorem Asn.take {l : List Int} {n : Nat} (h : Asn l n) (k : Nat) : Asn (l.take k) n :=
  ⟨h.1.sublist (List.take_sublist _ _), fun x hx => h.2 x (List.mem_of_mem_take hx)⟩

theorem asc_p {l : List Int} {n : Nat} (hl : l.length ≤ 100000) : Ret (graph_ascending l (n : Int)) (fun b => (b = true ∧ Asn l n) ∨ (b = false ∧ ¬ Asn l n)) := by
  unfold graph_ascending
  simp only [ret_bind]
  refine ret_call (P := fun o => (o = .inl () ∧ Asn l n) ∨ (o = .inr () ∧ ¬ Asn l n)) ?_ ?_
  · refine ret_loop l.length (fun k (t : Int × Int) => t.2 = k ∧ Asn (l.take k) n ∧ -1 ≤ t.1 ∧ (t.1 = -1 ∨ t.1 ∈ l.take k) ∧ ∀ y, y ∈ l.take k → y ≤ t.1) ⟨rfl, by simp [Asn], by simp, by simp, by simp⟩ ?_
    rintro k ⟨s, i⟩ hk ⟨rfl, h1, h2, h3, h4⟩
    simp only at h1 h2 h3 h4
    unfold graph_ascending_l3
    by_cases hkl : k < l.length
    · obtain ⟨x, hx⟩ : ∃ x, l[k]? = some x := ⟨l[k], by simp [hkl]⟩
      have e1 : getI l (k : Int) = some x := hx
      have e5 : (k : Int) < (l.length : Int) := by omega
      have hw : wa .i64 (k : Int) 1 = ((k + 1 : Nat) : Int) := wa1 (by omega)
      have ht := tks hx
      by_cases hc : x ≤ s ∨ (n : Int) ≤ x
      · have e6 : (decide (x ≤ s) || decide ((n : Int) ≤ x)) = true := by simpa using hc
        simp only [ret_bind, ret_if, ret_get, ret_set, ret_app, ret_mkL, ret_sli, ret_wr, ret_wq, ret_some, vq_l, vq_r, Int.toNat_natCast, if_true, if_false, obs, decide_false, decide_true, Bool.false_eq_true, Bool.not_true, Bool.not_false, not_true_eq_false, not_false_eq_true, true_implies, false_implies, reduceCtorEq, true_and, and_true, false_and, or_false, false_or, implies_true, e1, e5, e6, hw]
        refine fun h => ?_
        have := h.take (k + 1)
        rw [ht, Asn.snoc] at this
        obtain ⟨_, g1, g2, g3⟩ := this
        rcases hc with hc | hc
        · rcases h3 with h3 | h3
          · omega
          · have := g1 s h3; omega
        · omega
      · have e6 : (decide (x ≤ s) || decide ((n : Int) ≤ x)) = false := by simpa using hc
        simp only [ret_bind, ret_if, ret_get, ret_set, ret_app, ret_mkL, ret_sli, ret_wr, ret_wq, ret_some, vq_l, vq_r, Int.toNat_natCast, if_true, if_false, obs, decide_false, decide_true, Bool.false_eq_true, Bool.not_true, Bool.not_false, not_true_eq_false, not_false_eq_true, true_implies, false_implies, reduceCtorEq, true_and, and_true, false_and, or_false, false_or, implies_true, e1, e5, e6, hw, ht]
        refine ⟨hkl, Asn.snoc.2 ⟨h1, fun y hy => by have := h4 y hy; omega, by omega, by omega⟩, by omega, by simp, fun y hy => ?_⟩
        rw [List.mem_append, List.mem_singleton] at hy
        rcases hy with hy | rfl
        · have := h4 y hy; omega
        · omega
    · have e5 : ¬ (k : Int) < (l.length : Int) := by omega
      simp only [ret_bind, ret_if, ret_get, ret_set, ret_app, ret_mkL, ret_sli, ret_wr, ret_wq, ret_some, vq_l, vq_r, Int.toNat_natCast, if_true, if_false, obs, decide_false, decide_true, Bool.false_eq_true, Bool.not_true, Bool.not_false, not_true_eq_false, not_false_eq_true, true_implies, false_implies, reduceCtorEq, true_and, and_true, false_and, or_false, false_or, implies_true, e5]
      rw [take_all (by omega)] at h1
      exact h1
  · rintro o (⟨rfl, h⟩ | ⟨rfl, h⟩)
    · simp only [ret_some]; exact .inl ⟨trivial, h⟩
    · simp only [ret_some]; exact .inr ⟨trivial, h⟩

theorem pw_snoc {l : List Int} {x : Int} : (l ++ [x]).Pairwise (· < ·) ↔ l.Pairwise (· < ·) ∧ ∀ y, y ∈ l → y < x := by
  rw [List.pairwise_append]
  constructor
  · rintro ⟨h1, _, h2⟩; exact ⟨h1, fun y hy => h2 y hy x (by simp)⟩
  · rintro ⟨h1, h2⟩
    exact ⟨h1, List.pairwise_singleton _ _, fun y hy z hz => by rw [List.mem_singleton] at hz; subst hz; exact h2 y hy⟩

theorem joined_p {adj : List (List Int)} {v : Int} {l : List Int} (hv : getI adj v = some l) (h : l.Pairwise (· < ·)) (hl : l.length ≤ 100000) (x : Int) : graph_joined adj v x = some (decide (x ∈ l)) := by
  unfold graph_joined
  rw [bindS hv]
  obtain ⟨i, h⟩ := search_ok h (by omega) x
  rw [bindS h]

/-- the first half of the check -/
def G1 (adj : List (List Int)) (k : Nat) : Prop := ∀ (v : Nat) l, v < k → adj[v]? = some l → Asn l adj.length ∧ (v : Int) ∉ l
def S1 (adj : List (List Int)) (v : Nat) (l : List Int) : Prop := ∀ x, x ∈ l → ∃ m, adj[x.toNat]? = some m ∧ (v : Int) ∈ m
def G2 (adj : List (List Int)) (k : Nat) : Prop := ∀ (v : Nat) l, v < k → adj[v]? = some l → S1 adj v l
theorem gr_iff {adj : List (List Int)} : Gr adj ↔ G1 adj adj.length ∧ G2 adj adj.length := by
  constructor
  · intro h
    refine ⟨fun v l _ hl => ⟨⟨h.asc v l hl, fun x hx => ⟨(h.rng v l x hl hx).1, (h.rng v l x hl hx).2.1⟩⟩, fun hv => (h.rng v l v hl hv).2.2 rfl⟩, fun v l _ hl x hx => h.sym v l x hl hx⟩
  · rintro ⟨h1, h2⟩
    have hlt : ∀ (v : Nat) l, adj[v]? = some l → v < adj.length := fun v l hl => (List.getElem?_eq_some_iff.1 hl).1
    refine ⟨fun v l hl => (h1 v l (hlt v l hl) hl).1.1, fun v l x hl hx => ?_, fun v l x hl hx => h2 v l (hlt v l hl) hl x hx⟩
    have := h1 v l (hlt v l hl) hl
    refine ⟨(this.1.2 x hx).1, (this.1.2 x hx).2, ?_⟩
    rintro rfl
    exact this.2 hx

def Sml (adj : List (List Int)) : Prop := adj.length ≤ 100000 ∧ ∀ l, l ∈ adj → l.length ≤ 100000

theorem gcheck_p {adj : List (List Int)} (hn : adj.length ≤ 200) (hs : Sml adj) : Ret (graph_Check adj) (fun e => (e = 0 ∧ Gr adj) ∨ (e = 1 ∧ ¬ Gr adj)) := by
  unfold graph_Check
  rw [if_neg (by omega)]
  simp only [ret_bind]
  refine ret_call (P := fun o => (o = .inl () ∧ G1 adj adj.length) ∨ (o = .inr () ∧ ¬ Gr adj)) ?_ ?_
  · refine ret_loop adj.length (fun k (t : Int) => t = k ∧ G1 adj k) ⟨rfl, fun v l h => by omega⟩ ?_
    rintro k _ hk ⟨rfl, h1⟩
    unfold graph_Check_l3
    by_cases hkl : k < adj.length
    · obtain ⟨l, hx⟩ : ∃ l, adj[k]? = some l := ⟨adj[k], by simp [hkl]⟩
      have e1 : getI adj (k : Int) = some l := hx
      have e5 : (k : Int) < (adj.length : Int) := by omega
      have hw : wa .i64 (k : Int) 1 = ((k + 1 : Nat) : Int) := wa1 (by omega)
      simp only [ret_bind, ret_if, ret_get, ret_set, ret_app, ret_mkL, ret_sli, ret_wr, ret_wq, ret_some, vq_l, vq_r, Int.toNat_natCast, if_true, if_false, obs, decide_false, decide_true, Bool.false_eq_true, Bool.not_true, Bool.not_false, not_true_eq_false, not_false_eq_true, true_implies, false_implies, reduceCtorEq, true_and, and_true, false_and, or_false, false_or, implies_true, e1, e5]
      refine ret_call (asc_p (hs.2 l (mem_get hx))) ?_
      rintro b (⟨rfl, ha⟩ | ⟨rfl, ha⟩)
      · have e2 := joined_p e1 ha.1 (hs.2 l (mem_get hx)) (k : Int)
        by_cases hm : (k : Int) ∈ l
        · simp only [ret_bind, ret_if, ret_get, ret_set, ret_app, ret_mkL, ret_sli, ret_wr, ret_wq, ret_some, vq_l, vq_r, Int.toNat_natCast, if_true, if_false, obs, decide_false, decide_true, Bool.false_eq_true, Bool.not_true, Bool.not_false, not_true_eq_false, not_false_eq_true, true_implies, false_implies, reduceCtorEq, true_and, and_true, false_and, or_false, false_or, implies_true, e2, hm]
          refine fun h => ?_
          exact (h.rng k l k hx hm).2.2 rfl
        · simp only [ret_bind, ret_if, ret_get, ret_set, ret_app, ret_mkL, ret_sli, ret_wr, ret_wq, ret_some, vq_l, vq_r, Int.toNat_natCast, if_true, if_false, obs, decide_false, decide_true, Bool.false_eq_true, Bool.not_true, Bool.not_false, not_true_eq_false, not_false_eq_true, true_implies, false_implies, reduceCtorEq, true_and, and_true, false_and, or_false, false_or, implies_true, e2, hm, hw]
          refine ⟨hkl, fun v l' hv hl' => ?_⟩
          by_cases hvk : v = k
          · subst hvk
            rw [hx] at hl'
            obtain rfl := Option.some.inj hl'
            exact ⟨ha, hm⟩
          · exact h1 v l' (by omega) hl'
      · simp only [ret_bind, ret_if, ret_get, ret_set, ret_app, ret_mkL, ret_sli, ret_wr, ret_wq, ret_some, vq_l, vq_r, Int.toNat_natCast, if_true, if_false, obs, decide_false, decide_true, Bool.false_eq_true, Bool.not_true, Bool.not_false, not_true_eq_false, not_false_eq_true, true_implies, false_implies, reduceCtorEq, true_and, and_true, false_and, or_false, false_or, implies_true]
        refine fun h => ha ?_
        exact ((gr_iff.1 h).1 k l hkl hx).1
    · have e5 : ¬ (k : Int) < (adj.length : Int) := by omega
      simp only [ret_bind, ret_if, ret_get, ret_set, ret_app, ret_mkL, ret_sli, ret_wr, ret_wq, ret_some, vq_l, vq_r, Int.toNat_natCast, if_true, if_false, obs, decide_false, decide_true, Bool.false_eq_true, Bool.not_true, Bool.not_false, not_true_eq_false, not_false_eq_true, true_implies, false_implies, reduceCtorEq, true_and, and_true, false_and, or_false, false_or, implies_true, e5]
      obtain rfl : k = adj.length := by omega
      exact h1
  · rintro o (⟨rfl, h1⟩ | ⟨rfl, h⟩)
    · simp only [ret_bind]
      refine ret_call (P := fun o => (o = .inl () ∧ G2 adj adj.length) ∨ (o = .inr () ∧ ¬ Gr adj)) ?_ ?_
      · refine ret_loop adj.length (fun k (t : Int) => t = k ∧ G2 adj k) ⟨rfl, fun v l h => by omega⟩ ?_
        rintro k _ hk ⟨rfl, h2⟩
        unfold graph_Check_l6
        by_cases hkl : k < adj.length
        · obtain ⟨l, hx⟩ : ∃ l, adj[k]? = some l := ⟨adj[k], by simp [hkl]⟩
          have e1 : getI adj (k : Int) = some l := hx
          have e5 : (k : Int) < (adj.length : Int) := by omega
          have hw : wa .i64 (k : Int) 1 = ((k + 1 : Nat) : Int) := wa1 (by omega)
          have hll := hs.2 l (mem_get hx)
          simp only [ret_bind, ret_if, ret_get, ret_set, ret_app, ret_mkL, ret_sli, ret_wr, ret_wq, ret_some, vq_l, vq_r, Int.toNat_natCast, if_true, if_false, obs, decide_false, decide_true, Bool.false_eq_true, Bool.not_true, Bool.not_false, not_true_eq_false, not_false_eq_true, true_implies, false_implies, reduceCtorEq, true_and, and_true, false_and, or_false, false_or, implies_true, e1, e5]
          refine ret_call (P := fun o => (o = .inl () ∧ S1 adj k l) ∨ (o = .inr () ∧ ¬ Gr adj)) ?_ ?_
          · refine ret_loop l.length (fun j (t : Int) => t = j ∧ S1 adj k (l.take j)) ⟨rfl, fun x hx => by simp at hx⟩ ?_
            rintro j _ hj ⟨rfl, h3⟩
            unfold graph_Check_l7
            by_cases hjl : j < l.length
            · obtain ⟨x, hxj⟩ : ∃ x, l[j]? = some x := ⟨l[j], by simp [hjl]⟩
              have hxr := (h1 k l hkl hx).1.2 x (mem_get hxj)
              obtain ⟨w, rfl⟩ := Int.eq_ofNat_of_zero_le hxr.1
              obtain ⟨m, hm⟩ : ∃ m, adj[w]? = some m := ⟨adj[w]'(by omega), by simp [show w < adj.length by omega]⟩
              have e2 : getI l (j : Int) = some (w : Int) := hxj
              have e3 : getI adj (w : Int) = some m := hm
              have e6 : (j : Int) < (l.length : Int) := by omega
              have hw2 : wa .i64 (j : Int) 1 = ((j + 1 : Nat) : Int) := wa1 (by omega)
              have e4 := joined_p e3 (h1 w m (by omega) hm).1.1 (hs.2 m (mem_get hm)) (k : Int)
              by_cases hmm : (k : Int) ∈ m
              · simp only [ret_bind, ret_if, ret_get, ret_set, ret_app, ret_mkL, ret_sli, ret_wr, ret_wq, ret_some, vq_l, vq_r, Int.toNat_natCast, if_true, if_false, obs, decide_false, decide_true, Bool.false_eq_true, Bool.not_true, Bool.not_false, not_true_eq_false, not_false_eq_true, true_implies, false_implies, reduceCtorEq, true_and, and_true, false_and, or_false, false_or, implies_true, e2, e4, e6, hmm, hw2, tks hxj]
                refine ⟨hjl, fun y hy => ?_⟩
                rw [List.mem_append, List.mem_singleton] at hy
                rcases hy with hy | rfl
                · exact h3 y hy
                · exact ⟨m, hm, hmm⟩
              · simp only [ret_bind, ret_if, ret_get, ret_set, ret_app, ret_mkL, ret_sli, ret_wr, ret_wq, ret_some, vq_l, vq_r, Int.toNat_natCast, if_true, if_false, obs, decide_false, decide_true, Bool.false_eq_true, Bool.not_true, Bool.not_false, not_true_eq_false, not_false_eq_true, true_implies, false_implies, reduceCtorEq, true_and, and_true, false_and, or_false, false_or, implies_true, e2, e4, e6, hmm]
                refine fun h => hmm ?_
                obtain ⟨m', g1, g2⟩ := h.sym k l w hx (mem_get hxj)
                rw [Int.toNat_natCast, hm] at g1
                obtain rfl := Option.some.inj g1
                exact g2
            · have e6 : ¬ (j : Int) < (l.length : Int) := by omega
              simp only [ret_bind, ret_if, ret_get, ret_set, ret_app, ret_mkL, ret_sli, ret_wr, ret_wq, ret_some, vq_l, vq_r, Int.toNat_natCast, if_true, if_false, obs, decide_false, decide_true, Bool.false_eq_true, Bool.not_true, Bool.not_false, not_true_eq_false, not_false_eq_true, true_implies, false_implies, reduceCtorEq, true_and, and_true, false_and, or_false, false_or, implies_true, e6]
              rw [take_all (by omega)] at h3
              exact h3
          · rintro o (⟨rfl, h3⟩ | ⟨rfl, h⟩)
            · simp only [ret_bind, ret_if, ret_get, ret_set, ret_app, ret_mkL, ret_sli, ret_wr, ret_wq, ret_some, vq_l, vq_r, Int.toNat_natCast, if_true, if_false, obs, decide_false, decide_true, Bool.false_eq_true, Bool.not_true, Bool.not_false, not_true_eq_false, not_false_eq_true, true_implies, false_implies, reduceCtorEq, true_and, and_true, false_and, or_false, false_or, implies_true, hw]
              refine ⟨hkl, fun v l' hv hl' => ?_⟩
              by_cases hvk : v = k
              · subst hvk
                rw [hx] at hl'
                obtain rfl := Option.some.inj hl'
                exact h3
              · exact h2 v l' (by omega) hl'
            · simp only [ret_bind, ret_if, ret_get, ret_set, ret_app, ret_mkL, ret_sli, ret_wr, ret_wq, ret_some, vq_l, vq_r, Int.toNat_natCast, if_true, if_false, obs, decide_false, decide_true, Bool.false_eq_true, Bool.not_true, Bool.not_false, not_true_eq_false, not_false_eq_true, true_implies, false_implies, reduceCtorEq, true_and, and_true, false_and, or_false, false_or, implies_true]
              exact h
        · have e5 : ¬ (k : Int) < (adj.length : Int) := by omega
          simp only [ret_bind, ret_if, ret_get, ret_set, ret_app, ret_mkL, ret_sli, ret_wr, ret_wq, ret_some, vq_l, vq_r, Int.toNat_natCast, if_true, if_false, obs, decide_false, decide_true, Bool.false_eq_true, Bool.not_true, Bool.not_false, not_true_eq_false, not_false_eq_true, true_implies, false_implies, reduceCtorEq, true_and, and_true, false_and, or_false, false_or, implies_true, e5]
          obtain rfl : k = adj.length := by omega
          exact h2
      · rintro o (⟨rfl, h2⟩ | ⟨rfl, h⟩)
        · simp only [ret_some]; exact .inl ⟨trivial, gr_iff.2 ⟨h1, h2⟩⟩
        · simp only [ret_some]; exact .inr ⟨trivial, h⟩
    · simp only [ret_some]; exact .inr ⟨trivial, h⟩

/-- one row, as the document checks it -/
def R1 (adj : List (List Int)) (v : Nat) (l : List Int) : Prop := ∀ x, x ∈ l → (0 ≤ x ∧ x < (adj.length : Int)) ∧ x ≠ (v : Int) ∧ ∃ m, adj[x.toNat]? = some m ∧ (v : Int) ∈ m
def G3 (adj : List (List Int)) (k : Nat) : Prop := ∀ (v : Nat) l, v < k → adj[v]? = some l → l.Pairwise (· < ·) ∧ R1 adj v l
theorem gr_iff3 {adj : List (List Int)} : Gr adj ↔ G3 adj adj.length := by
  constructor
  · intro h v l _ hl
    exact ⟨h.asc v l hl, fun x hx => ⟨⟨(h.rng v l x hl hx).1, (h.rng v l x hl hx).2.1⟩, (h.rng v l x hl hx).2.2, h.sym v l x hl hx⟩⟩
  · intro h
    have hlt : ∀ (v : Nat) l, adj[v]? = some l → v < adj.length := fun v l hl => (List.getElem?_eq_some_iff.1 hl).1
    refine ⟨fun v l hl => (h v l (hlt v l hl) hl).1, fun v l x hl hx => ?_, fun v l x hl hx => ((h v l (hlt v l hl) hl).2 x hx).2.2⟩
    have := (h v l (hlt v l hl) hl).2 x hx
    exact ⟨this.1.1, this.1.2, this.2.1⟩

end Pu
