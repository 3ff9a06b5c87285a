/- The forest of the columns, by the program: it is the forest of the normal graph. -/
import Derived.Test.YtoelidgkfpmgnaaDoorPuH
import Derived.Test.YtoelidgkfpmgnaaDoorPuB
set_option linter.unusedSimpArgs false
set_option linter.unusedVariables false
namespace Pu
open Pl Sx Go M Vc

/-- one forest only is as QP and Edges say -/
theorem par_uniq {adj : List (List Int)} (hG : Gr adj) {p q : List Int} (hp : p.length = adj.length) (hq : q.length = adj.length) (kp : QP adj p) (kq : QP adj q) (ep : Edges adj p adj.length) (eq : Edges adj q adj.length)
    (sp : ∀ (u : Nat) x, p[u]? = some x → x = -1 ∨ (u : Int) < x) (sq : ∀ (u : Nat) x, q[u]? = some x → x = -1 ∨ (u : Int) < x) : p = q := by
  apply List.ext_getElem?
  intro u
  by_cases hu : u < adj.length
  · obtain ⟨a, ha⟩ : ∃ a, p[u]? = some a := ⟨p[u]'(by omega), by simp [show u < p.length by omega]⟩
    obtain ⟨b, hb⟩ : ∃ b, q[u]? = some b := ⟨q[u]'(by omega), by simp [show u < q.length by omega]⟩
    rw [ha, hb]
    rcases sp u a ha with rfl | h1
    · rcases sq u b hb with rfl | h2
      · rfl
      · obtain ⟨b, rfl⟩ := Int.eq_ofNat_of_zero_le (show 0 ≤ b by omega)
        exact absurd (kq u b hb).1 (qp_all hG kp ep u ha b)
    · obtain ⟨a, rfl⟩ := Int.eq_ofNat_of_zero_le (show 0 ≤ a by omega)
      rcases sq u b hb with rfl | h2
      · exact absurd (kp u a ha).1 (qp_all hG kq eq u hb a)
      · obtain ⟨b, rfl⟩ := Int.eq_ofNat_of_zero_le (show 0 ≤ b by omega)
        rw [(kp u a ha).uniq (kq u b hb)]
  · rw [List.getElem?_eq_none (by omega), List.getElem?_eq_none (by omega)]

theorem join_none {par anc : List Int} {v : Nat} : etree_forest_join par anc (-1) (v : Int) = some (par, anc) := by
  refine Ret.eq ?_
  unfold etree_forest_join
  simp only [ret_bind]
  refine ret_call (P := fun o => o = (par, anc)) ?_ (fun o ho => by subst ho; simp only [ret_some])
  refine ret_loop 0 (fun k (t : List Int × List Int × Int) => t = (par, anc, -1)) rfl ?_
  rintro k _ hk rfl
  unfold etree_forest_join_l5
  simp only [ret_bind, ret_if, ret_get, ret_set, ret_app, ret_mkL, ret_sli, ret_wr, ret_wq, ret_some, vq_l, vq_r, Int.toNat_natCast, if_true, if_false, obs, decide_false, decide_true, Bool.false_eq_true, Bool.not_true, Bool.not_false, not_true_eq_false, not_false_eq_true, true_implies, false_implies, reduceCtorEq, true_and, and_true, false_and, or_false, false_or, implies_true, decide_true, Bool.not_true, Bool.false_and]

/-- what is known of the rows: pairs of columns lead up -/
def EK (l : List (Int × Int × Int)) (par : List Int) : Prop := ∀ r c c' : Nat, En l r c → En l r c' → c < c' → Up par c c'
def La (l : List (Int × Int × Int)) (last : List Int) (m : Nat) : Prop := last.length = m ∧ ∀ r : Nat, r < m → (last[r]? = some (-1) ∧ ∀ c, ¬ En l r c) ∨ ∃ c : Nat, last[r]? = some (c : Int) ∧ En l r c ∧ ∀ c', En l r c' → c' ≤ c

theorem en_snoc {l : List (Int × Int × Int)} {e : Int × Int × Int} {r j : Nat} (h1 : e.1 = (r : Int)) (h2 : e.2.1 = (j : Int)) {r' c : Nat} : En (l ++ [e]) r' c ↔ En l r' c ∨ (r' = r ∧ c = j) := by
  unfold En
  constructor
  · rintro ⟨x, hx, g1, g2⟩
    rw [List.mem_append, List.mem_singleton] at hx
    rcases hx with hx | rfl
    · exact .inl ⟨x, hx, g1, g2⟩
    · exact .inr ⟨by omega, by omega⟩
  · rintro (⟨x, hx, g1, g2⟩ | ⟨rfl, rfl⟩)
    · exact ⟨x, by simp [hx], g1, g2⟩
    · exact ⟨e, by simp, h1, h2⟩
theorem la_snoc {l : List (Int × Int × Int)} {e : Int × Int × Int} {r j m : Nat} (h1 : e.1 = (r : Int)) (h2 : e.2.1 = (j : Int)) {last : List Int} (h : La l last m) (hr : r < m) (hj : ∀ c, En l r c → c ≤ j) : La (l ++ [e]) (last.set r (j : Int)) m := by
  refine ⟨by simp [h.1], fun r' hr' => ?_⟩
  have hl := h.1
  by_cases hrr : r = r'
  · subst hrr
    refine .inr ⟨j, by rw [List.getElem?_set, if_pos rfl, if_pos (by omega)], (en_snoc h1 h2).2 (.inr ⟨rfl, rfl⟩), fun c' hc' => ?_⟩
    rcases (en_snoc h1 h2).1 hc' with h3 | ⟨_, rfl⟩
    · exact hj c' h3
    · exact Nat.le_refl _
  · rw [List.getElem?_set, if_neg hrr]
    rcases h.2 r' hr' with ⟨g1, g2⟩ | ⟨c, g1, g2, g3⟩
    · refine .inl ⟨g1, fun c hc => ?_⟩
      rcases (en_snoc h1 h2).1 hc with h3 | ⟨h3, _⟩
      · exact g2 c h3
      · exact hrr h3.symm
    · refine .inr ⟨c, g1, (en_snoc h1 h2).2 (.inl g2), fun c' hc' => ?_⟩
      rcases (en_snoc h1 h2).1 hc' with h3 | ⟨h3, _⟩
      · exact g3 c' h3
      · exact absurd h3.symm hrr

/-- the graph that l tells of -/
structure Ng (adj : List (List Int)) (l : List (Int × Int × Int)) (n : Nat) : Prop where
  gr : Gr adj
  len : adj.length = n
  nb : ∀ (v w : Nat), v < n → w < n → ∀ ll, adj[v]? = some ll → ((w : Int) ∈ ll ↔ Nb l v w)

theorem edges_of {adj : List (List Int)} {l l' : List (Int × Int × Int)} {n v : Nat} (hN : Ng adj l n) {par : List Int} (hE : EK l' par) (hv : v ≤ n) (hsub : ∀ r c, c < v → En l r c → En l' r c) : Edges adj par v := by
  intro v' ll w hv' hll hw hwv
  obtain ⟨_, r, h1, h2⟩ := (hN.nb v' w (by omega) (by omega) ll hll).1 hw
  exact hE r w v' (hsub r w (by omega) h2) (hsub r v' hv' h1) hwv

structure CI (adj : List (List Int)) (l : List (Int × Int × Int)) (m n k : Nat) (par anc last : List Int) : Prop where
  v0 : ∃ v, Clean n v par anc ∧ ∀ e, e ∈ l.drop k → (v : Int) ≤ e.2.1
  qp : QP adj par
  ek : EK (l.take k) par
  la : La (l.take k) last m

theorem ci_step {adj : List (List Int)} {l : List (Int × Int × Int)} {m n : Nat} (hn : n ≤ 200) (hr : ∀ e, e ∈ l → Bd m n e) (hP : l.Pairwise LT) (hN : Ng adj l n) {k : Nat} {par anc last : List Int} (h : CI adj l m n k par anc last) {e : Int × Int × Int} (he : l[k]? = some e) {r j : Nat} (h1 : e.1 = (r : Int)) (h2 : e.2.1 = (j : Int)) :
    ∃ x par' anc', last[r]? = some x ∧ etree_forest_join par anc x (j : Int) = some (par', anc') ∧ CI adj l m n (k + 1) par' anc' (last.set r (j : Int)) := by
  have hkl := (List.getElem?_eq_some_iff.1 he).1
  have hb := hr e (mem_get he)
  have hrm : r < m := by have := hb.1; omega
  have hjn : j < n := by have := hb.2; omega
  have hsplit : l = l.take k ++ e :: l.drop (k + 1) := by
    rw [← drop_at' he, List.take_append_drop]
  have hpw : (∀ e', e' ∈ l.take k → LT e' e) ∧ (∀ e', e' ∈ l.drop (k + 1) → LT e e') := by
    rw [hsplit, List.pairwise_append, List.pairwise_cons] at hP
    exact ⟨fun e' he' => hP.2.2 e' he' e (by simp), hP.2.1.1⟩
  -- earlier ones of the row lie in earlier columns
  have hlow : ∀ c, En (l.take k) r c → c < j := by
    rintro c ⟨e', he', g1, g2⟩
    rcases hpw.1 e' he' with h3 | ⟨_, h3⟩ <;> omega
  obtain ⟨v, hC, hv⟩ := h.v0
  have hvj : v ≤ j := by
    have := hv e (by rw [drop_at' he]; simp)
    omega
  have hC' : Clean n j par anc := ⟨hC.lp, hC.la, fun u p hp => (hC.inc u p hp).imp id fun h => ⟨h.1, by omega⟩, hC.same, fun u a ha => (hC.an u a ha).imp id fun h => ⟨h.1, by omega, h.2.2⟩⟩
  have hdrop : ∀ e', e' ∈ l.drop (k + 1) → (j : Int) ≤ e'.2.1 := by
    intro e' he'
    rcases hpw.2 e' he' with h3 | ⟨h3, _⟩ <;> omega
  -- what lies in columns before j is known
  have hsub : ∀ r c, c < j → En l r c → En (l.take k) r c := by
    rintro r' c hc ⟨e', he', g1, g2⟩
    rw [hsplit, List.mem_append, List.mem_cons] at he'
    rcases he' with he' | rfl | he'
    · exact ⟨e', he', g1, g2⟩
    · omega
    · have := hdrop e' he'; omega
  have ht := tks he
  have hla := fun {last : List Int} (hl : La (l.take k) last m) => la_snoc h1 h2 hl hrm (fun c hc => Nat.le_of_lt (hlow c hc))
  rcases h.la.2 r hrm with ⟨g1, g2⟩ | ⟨c, g1, g2, g3⟩
  · refine ⟨-1, par, anc, g1, join_none, ⟨⟨j, hC', hdrop⟩, h.qp, ?_, by rw [ht]; exact hla h.la⟩⟩
    rw [ht]
    intro r' a b ha hb hab
    rcases (en_snoc h1 h2).1 ha with ha | ⟨rfl, rfl⟩
    · rcases (en_snoc h1 h2).1 hb with hb | ⟨rfl, rfl⟩
      · exact h.ek r' a b ha hb hab
      · exact absurd ha (g2 a)
    · rcases (en_snoc h1 h2).1 hb with hb | ⟨_, rfl⟩
      · exact absurd hb (g2 b)
      · omega
  · have hcj := hlow c g2
    obtain ⟨par', anc', k1, k2, k3, k4⟩ := join_ok hcj hjn (by omega) hC'
    have hm : ∀ (u q : Nat), par[u]? = some (q : Int) → par'[u]? = some (q : Int) := by
      rcases k4 with rfl | ⟨u0, g1, _, _, rfl⟩
      · exact fun _ _ h => h
      · exact set_mono g1
    refine ⟨(c : Int), par', anc', g1, k1, ⟨⟨j, k2, hdrop⟩, ?_, ?_, by rw [ht]; exact hla h.la⟩⟩
    · rcases k4 with rfl | ⟨u0, f1, f2, f3, rfl⟩
      · exact h.qp
      · obtain ⟨ll, hll⟩ : ∃ ll, adj[j]? = some ll := ⟨adj[j]'(by have := hN.len; omega), by simp [show j < adj.length by have := hN.len; omega]⟩
        have hmem : (c : Int) ∈ ll := by
          refine (hN.nb j c hjn (by omega) ll hll).2 ⟨by omega, r, ⟨e, mem_get he, h1, h2⟩, ?_⟩
          obtain ⟨e', he', g4⟩ := g2
          exact ⟨e', List.mem_of_mem_take he', g4⟩
        exact qp_step hN.gr hll hmem hcj (edges_of hN h.ek (by omega) hsub) (fun u p hp => (hC.inc u p hp).imp id (·.1)) h.qp f2 f1 f3
    · rw [ht]
      intro r' a b ha hb hab
      rcases (en_snoc h1 h2).1 ha with ha | ⟨rfl, rfl⟩
      · rcases (en_snoc h1 h2).1 hb with hb | ⟨rfl, rfl⟩
        · exact (h.ek r' a b ha hb hab).mono hm
        · have hac := g3 a ha
          by_cases hac' : a = c
          · subst hac'; exact k3
          · exact ((h.ek _ a c ha g2 (by omega)).mono hm).trans k3
      · rcases (en_snoc h1 h2).1 hb with hb | ⟨_, rfl⟩
        · have := hlow b hb; omega
        · omega
where
  drop_at' {l : List (Int × Int × Int)} {k : Nat} {e : Int × Int × Int} (he : l[k]? = some e) : l.drop k = e :: l.drop (k + 1) := by
    obtain ⟨h, rfl⟩ := List.getElem?_eq_some_iff.1 he
    rw [List.drop_eq_getElem_cons h]

theorem col_loop {adj : List (List Int)} {l : List (Int × Int × Int)} {m n : Nat} (hl : l.length ≤ 1000) (hn : n ≤ 200) (hr : ∀ e, e ∈ l → Bd m n e) (hP : l.Pairwise LT) (hN : Ng adj l n) :
    Ret (loop (etree_ColParent_l2 l) (List.replicate n (-1), List.replicate n (-1), List.replicate m (-1), 0)) (fun o => o.1.length = n ∧ QP adj o.1 ∧ Edges adj o.1 n ∧ ∀ (u : Nat) x, o.1[u]? = some x → x = -1 ∨ (u : Int) < x) := by
  refine ret_loop l.length (fun k (t : List Int × List Int × List Int × Int) => t.2.2.2 = k ∧ CI adj l m n k t.1 t.2.1 t.2.2.1) ⟨rfl, ?_⟩ ?_
  · refine ⟨⟨0, ⟨by simp, by simp, fun u p hp => .inl (rep_mem hp), fun u hu => by simp [hu], fun u a ha => .inl (rep_mem ha)⟩, fun e he => ?_⟩, fun u p h => by have := rep_mem h; omega, ?_, ⟨by simp, fun r hr => .inl ⟨by simp [hr], ?_⟩⟩⟩
    · have := (hr e (by simpa using he)).2.1
      simpa using this
    · rintro r c c' ⟨e, he, _⟩; simp at he
    · rintro c ⟨e, he, _⟩; simp at he
  · rintro k ⟨par, anc, last, i⟩ hk ⟨rfl, hI⟩
    simp only at hI
    unfold etree_ColParent_l2
    by_cases hkl : k < l.length
    · obtain ⟨e, he⟩ : ∃ e, l[k]? = some e := ⟨l[k], by simp [hkl]⟩
      have hb := hr e (mem_get he)
      obtain ⟨r, h1⟩ := Int.eq_ofNat_of_zero_le hb.1.1
      obtain ⟨j, h2⟩ := Int.eq_ofNat_of_zero_le hb.2.1
      obtain ⟨x, par', anc', g1, g2, g3⟩ := ci_step hn hr hP hN hI he h1 h2
      have e1 : getI l (k : Int) = some e := he
      have e2 : getI last (r : Int) = some x := g1
      have e5 : (k : Int) < (l.length : Int) := by omega
      have hw : wa .i64 (k : Int) 1 = ((k + 1 : Nat) : Int) := wa1 (by omega)
      have hrl : r < last.length := (List.getElem?_eq_some_iff.1 g1).1
      simp only [ret_bind, ret_if, ret_get, ret_set, ret_app, ret_mkL, ret_sli, ret_wr, ret_wq, ret_some, vq_l, vq_r, Int.toNat_natCast, if_true, if_false, obs, decide_false, decide_true, Bool.false_eq_true, Bool.not_true, Bool.not_false, not_true_eq_false, not_false_eq_true, true_implies, false_implies, reduceCtorEq, true_and, and_true, false_and, or_false, false_or, implies_true, e1, e2, e5, hw, h1, h2, g2]
      exact ⟨by omega, by omega, hkl, g3⟩
    · have e5 : ¬ (k : Int) < (l.length : Int) := by omega
      simp only [ret_bind, ret_if, ret_get, ret_set, ret_app, ret_mkL, ret_sli, ret_wr, ret_wq, ret_some, vq_l, vq_r, Int.toNat_natCast, if_true, if_false, obs, decide_false, decide_true, Bool.false_eq_true, Bool.not_true, Bool.not_false, not_true_eq_false, not_false_eq_true, true_implies, false_implies, reduceCtorEq, true_and, and_true, false_and, or_false, false_or, implies_true, e5]
      obtain ⟨v, hC, _⟩ := hI.v0
      refine ⟨hC.lp, hI.qp, ?_, fun u x hx => (hC.inc u x hx).imp id (·.1)⟩
      have := hI.ek
      rw [take_all (by omega)] at this
      exact edges_of hN this (Nat.le_refl _) (fun r c _ h => h)

theorem last_ok {m : Nat} (hm : m ≤ 1000) : loop (etree_ColParent_l1 (List.replicate m 0)) (List.replicate m 0, 0) = some (List.replicate m (-1)) := by
  refine Ret.eq ?_
  refine ret_loop m (fun k (t : List Int × Int) => t.2 = k ∧ t.1.length = m ∧ ∀ u, u < k → t.1[u]? = some (-1)) ⟨rfl, by simp, fun u hu => by omega⟩ ?_
  rintro k ⟨s, i⟩ hk ⟨rfl, h1, h2⟩
  simp only at h1 h2
  unfold etree_ColParent_l1
  by_cases hkm : k < m
  · have e5 : (k : Int) < ((List.replicate m (0 : Int)).length : Int) := by simp; omega
    have hw : wa .i64 (k : Int) 1 = ((k + 1 : Nat) : Int) := wa1 (by omega)
    simp only [ret_bind, ret_if, ret_get, ret_set, ret_app, ret_mkL, ret_sli, ret_wr, ret_wq, ret_some, vq_l, vq_r, Int.toNat_natCast, if_true, if_false, obs, decide_false, decide_true, Bool.false_eq_true, Bool.not_true, Bool.not_false, not_true_eq_false, not_false_eq_true, true_implies, false_implies, reduceCtorEq, true_and, and_true, false_and, or_false, false_or, implies_true, e5, hw]
    refine ⟨by omega, by omega, hkm, by simp [h1], fun u hu => ?_⟩
    rw [List.getElem?_set]
    by_cases huk : k = u
    · rw [if_pos huk, if_pos (by omega)]
    · rw [if_neg huk]; exact h2 u (by omega)
  · have e5 : ¬ (k : Int) < ((List.replicate m (0 : Int)).length : Int) := by simp; omega
    simp only [ret_bind, ret_if, ret_get, ret_set, ret_app, ret_mkL, ret_sli, ret_wr, ret_wq, ret_some, vq_l, vq_r, Int.toNat_natCast, if_true, if_false, obs, decide_false, decide_true, Bool.false_eq_true, Bool.not_true, Bool.not_false, not_true_eq_false, not_false_eq_true, true_implies, false_implies, reduceCtorEq, true_and, and_true, false_and, or_false, false_or, implies_true, e5]
    apply List.ext_getElem?
    intro u
    by_cases hu : u < m
    · rw [h2 u (by omega)]; simp [hu]
    · rw [List.getElem?_eq_none (by omega), List.getElem?_eq_none (by simp; omega)]

end Pu
