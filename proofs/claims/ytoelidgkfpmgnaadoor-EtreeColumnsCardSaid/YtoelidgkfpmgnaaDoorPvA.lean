/- What settles an elimination forest: edges lead up, links are justified. -/
import Derived.Test.YtoelidgkfpmgnaaDoorPlQ
import Derived.Test.YtoelidgkfpmgnaaDoorVcA
set_option linter.unusedSimpArgs false
set_option linter.unusedVariables false
namespace Pv
open Pl Sx Go M Vc

def Inc (par : List Int) : Prop := ∀ (u : Nat) x, par[u]? = some x → x = -1 ∨ (u : Int) < x
def Just (adj : List (List Int)) (par : List Int) : Prop := ∀ u m : Nat, par[u]? = some (m : Int) → ∃ w, Up par w u ∧ EE adj 0 w m

theorem Fo.inc {par : List Int} (h : Fo par) : Inc par := by
  intro u x hx
  have := h u (List.getElem?_eq_some_iff.1 hx).1 x hx
  omega

theorem up_two {par : List Int} {w a b : Nat} (hi : Inc par) (ha : Up par w a) (hb : Up par w b) (hab : a ≤ b) : Up par a b := by
  refine Up.ind (par := par) (P := fun w a => Up par w b → a ≤ b → Up par a b) (fun _ h _ => h) (fun u q a hq hqa ih hub hle => ?_) ha hb hab
  rcases hub.cases with h | ⟨q', h1, h2⟩
  · have h3 := hqa.le hi
    have := hi u _ hq
    omega
  · rw [hq] at h1
    have h4 := Option.some.inj h1
    obtain rfl : q = q' := by omega
    exact ih h2 hle

theorem upq_up {adj : List (List Int)} (hG : Gr adj) {par : List Int} (hq : QP adj par) (hE : Edges adj par adj.length) {u a : Nat} (h : Upq adj u a) : Up par u a := by
  induction h with
  | refl u => exact Up.refl _ _
  | step h1 _ ih => exact Up.step (stage hG hq hE h1 (EE.lt hG _ _ _ h1.1.1)) ih

theorem just_of {adj : List (List Int)} (hG : Gr adj) {par : List Int} (hq : QP adj par) (hE : Edges adj par adj.length) : Just adj par := by
  intro u m h
  obtain ⟨w, h1, h2⟩ := NN.root u (hq u m h).1
  exact ⟨w, upq_up hG hq hE h2, h1⟩

/-- neighbours when u is eliminated -/
theorem nn_iff {adj : List (List Int)} (hG : Gr adj) {par : List Int} (hi : Inc par) (hq : QP adj par) (hE : Edges adj par adj.length) {u w : Nat} : NN adj u w ↔ u < w ∧ ∃ x, EE adj 0 x w ∧ Up par x u := by
  constructor
  · intro h
    obtain ⟨x, h1, h2⟩ := NN.root u h
    exact ⟨h.2, x, h1, upq_up hG hq hE h2⟩
  · rintro ⟨h1, x, h2, h3⟩
    have := h3.le hi
    exact chain_nn hq hi h3 (NN.edge h2 (by omega)) h1

theorem edges_ee {adj : List (List Int)} (hG : Gr adj) {par : List Int} (hE : Edges adj par adj.length) {w m : Nat} (h : EE adj 0 w m) (hwm : w < m) : Up par w m := by
  have hm := EE.lt hG _ _ _ h
  obtain ⟨l, h3, h4⟩ := EE.sym hG 0 w m h
  exact hE m l w hm h3 h4 hwm

/-- a chain below u is the same in both -/
theorem up_low {p q : List Int} {b : Nat} (hi : Inc p) (hs : ∀ u : Nat, u < b → p[u]? = q[u]?) {w u : Nat} (h : Up p w u) (hu : u ≤ b) : Up q w u := by
  refine Up.ind (par := p) (P := fun w u => u ≤ b → Up q w u) (fun _ _ => Up.refl _ _) (fun u x a hx hxa ih ha => ?_) h hu
  have h3 := hxa.le hi
  have := hi u _ hx
  refine Up.step (q := x) ?_ (ih ha)
  rw [← hs u (by omega)]
  exact hx

theorem par_one {adj : List (List Int)} (hG : Gr adj) {p q : List Int} (ip : Inc p) (iq : Inc q) (jp : Just adj p) (eq : Edges adj q adj.length) {u : Nat} (hs : ∀ u' : Nat, u' < u → p[u']? = q[u']?) {m : Nat} (h : p[u]? = some (m : Int)) :
    ∃ m' : Nat, q[u]? = some (m' : Int) ∧ m' ≤ m := by
  obtain ⟨w, h1, h2⟩ := jp u m h
  have h3 := up_low ip hs h1 (Nat.le_refl _)
  have hwu := h1.le ip
  have hum := ip u _ h
  have h4 := edges_ee hG eq h2 (by omega)
  rcases (up_two iq h3 h4 (by omega)).cases with h5 | ⟨m', h5, h6⟩
  · omega
  · exact ⟨m', h5, h6.le iq⟩

theorem par_uniq2 {adj : List (List Int)} (hG : Gr adj) {p q : List Int} (hp : p.length = adj.length) (hq : q.length = adj.length) (ip : Inc p) (iq : Inc q) (jp : Just adj p) (jq : Just adj q) (ep : Edges adj p adj.length) (eq : Edges adj q adj.length) : p = q := by
  have key : ∀ u : Nat, p[u]? = q[u]? := by
    intro u
    induction u using Nat.strongRecOn with
    | _ u ih =>
      by_cases hu : u < adj.length
      · obtain ⟨a, ha⟩ : ∃ a, p[u]? = some a := ⟨p[u]'(by omega), by simp [show u < p.length by omega]⟩
        obtain ⟨b, hb⟩ : ∃ b, q[u]? = some b := ⟨q[u]'(by omega), by simp [show u < q.length by omega]⟩
        have hp1 := fun m => par_one hG ip iq jp eq ih (m := m)
        have hq1 := fun m => par_one hG iq ip jq ep (fun u' hu' => (ih u' hu').symm) (m := m)
        rw [ha] at hp1; rw [hb] at hq1
        rw [hb] at hp1; rw [ha] at hq1
        rw [ha, hb]
        rcases ip u a ha with rfl | h1
        · rcases iq u b hb with rfl | h2
          · rfl
          · obtain ⟨b, rfl⟩ := Int.eq_ofNat_of_zero_le (show 0 ≤ b by omega)
            obtain ⟨m, h3, _⟩ := hq1 b rfl
            have := Option.some.inj h3
            omega
        · obtain ⟨a, rfl⟩ := Int.eq_ofNat_of_zero_le (show 0 ≤ a by omega)
          obtain ⟨m, h3, h4⟩ := hp1 a rfl
          have := Option.some.inj h3
          subst this
          obtain ⟨m', h5, h6⟩ := hq1 m rfl
          have := Option.some.inj h5
          congr 1; omega
      · rw [List.getElem?_eq_none (by omega), List.getElem?_eq_none (by omega)]
  exact List.ext_getElem? key

/-- what Parent gives -/
structure Pt (adj : List (List Int)) (par : List Int) : Prop where
  len : par.length = adj.length
  fo : Fo par
  ed : Edges adj par adj.length
  qp : QP adj par
theorem parent_full {adj : List (List Int)} (hG : Gr adj) (hn : adj.length ≤ 200) : ∃ par, etree_Parent adj = some (par, 0) ∧ Pt adj par := by
  obtain ⟨par, q1, q2, q3, q4, q5⟩ := parent_ok hG hn (QP adj) (fun u p h => by have := rep_mem h; omega)
    (fun v w u0 l par h1 h2 h3 hE hinc _ hq hup h4 h5 => qp_step hG h1 h2 h3 hE (fun u p h => (hinc u p h).imp id (·.1)) hq hup h4 h5)
  exact ⟨par, q1, q2, q3, q4, q5⟩
theorem Pt.inc {adj : List (List Int)} {par : List Int} (h : Pt adj par) : Inc par := Fo.inc h.fo

/-! ### another labelling -/
/-- O lists the vertices in the new order, A tells each vertex's place -/
structure Lab (n : Nat) (O A : Nat → Nat) : Prop where
  ol : ∀ i, i < n → O i < n
  al : ∀ v, v < n → A v < n
  ao : ∀ i, i < n → A (O i) = i
  oa : ∀ v, v < n → O (A v) = v

/-- q is par relabelled -/
structure Rl (par q : List Int) (n : Nat) (O A : Nat → Nat) : Prop where
  lp : par.length = n
  lq : q.length = n
  go : ∀ (v m : Nat), par[v]? = some (m : Int) → q[A v]? = some (A m : Int)
  no : ∀ (v : Nat), par[v]? = some (-1) → q[A v]? = some (-1)
  up : ∀ (v m : Nat), par[v]? = some (m : Int) → A v < A m

theorem Rl.back {par q : List Int} {n : Nat} {O A : Nat → Nat} (h : Rl par q n O A) (hL : Lab n O A) (hF : Fo par) {i : Nat} {x : Int} (hx : q[i]? = some x) : i < n ∧ ((x = -1 ∧ par[O i]? = some (-1)) ∨ ∃ m : Nat, m < n ∧ par[O i]? = some (m : Int) ∧ x = (A m : Int)) := by
  have hi : i < n := by have := (List.getElem?_eq_some_iff.1 hx).1; have := h.lq; omega
  refine ⟨hi, ?_⟩
  have ho := hL.ol i hi
  obtain ⟨y, hy⟩ : ∃ y, par[O i]? = some y := ⟨par[O i]'(by have := h.lp; omega), by simp [show O i < par.length by have := h.lp; omega]⟩
  have hf := hF (O i) (by have := h.lp; omega) y hy
  by_cases h0 : y = -1
  · subst h0
    have := h.no _ hy
    rw [hL.ao i hi, hx] at this
    exact .inl ⟨Option.some.inj this, hy⟩
  · obtain ⟨m, rfl⟩ := Int.eq_ofNat_of_zero_le (show 0 ≤ y by omega)
    have := h.go _ _ hy
    rw [hL.ao i hi, hx] at this
    exact .inr ⟨m, by have := h.lp; omega, hy, Option.some.inj this⟩

theorem Rl.upf {par q : List Int} {n : Nat} {O A : Nat → Nat} (h : Rl par q n O A) {u a : Nat} (hu : Up par u a) : Up q (A u) (A a) :=
  Up.ind (P := fun u a => Up q (A u) (A a)) (fun _ => Up.refl _ _) (fun u x a hx _ ih => Up.step (h.go u x hx) ih) hu
theorem Rl.upb {par q : List Int} {n : Nat} {O A : Nat → Nat} (h : Rl par q n O A) (hL : Lab n O A) (hF : Fo par) {i j : Nat} (hu : Up q i j) : Up par (O i) (O j) := by
  refine Up.ind (par := q) (P := fun i j => Up par (O i) (O j)) (fun _ => Up.refl _ _) (fun i x j hx _ ih => ?_) hu
  obtain ⟨hi, h1 | ⟨m, hm, h1, h2⟩⟩ := h.back hL hF hx
  · omega
  · have : x = A m := by omega
    subst this
    rw [hL.oa m hm] at ih
    exact Up.step h1 ih
theorem Rl.fo {par q : List Int} {n : Nat} {O A : Nat → Nat} (h : Rl par q n O A) (hL : Lab n O A) (hF : Fo par) : Fo q := by
  intro i hi x hx
  obtain ⟨hi, h1 | ⟨m, hm, h1, h2⟩⟩ := h.back hL hF hx
  · exact .inl h1.1
  · have h3 := h.up _ _ h1
    rw [hL.ao i hi] at h3
    have h4 := hL.al m hm
    have := h.lq
    right
    omega
/-- an ancestor stands later -/
theorem Rl.later {par q : List Int} {n : Nat} {O A : Nat → Nat} (h : Rl par q n O A) {u a : Nat} (hu : Up par u a) : A u ≤ A a :=
  Up.ind (P := fun u a => A u ≤ A a) (fun _ => Nat.le_refl _) (fun u x a hx _ ih => by have := h.up _ _ hx; omega) hu

/-- the graph relabelled -/
def Rg (adj hadj : List (List Int)) (n : Nat) (O : Nat → Nat) : Prop := ∀ i j, i < n → j < n → (EE hadj 0 i j ↔ EE adj 0 (O i) (O j))

theorem relab_par {adj hadj : List (List Int)} {par q : List Int} {n : Nat} {O A : Nat → Nat} (hG : Gr adj) (hH : Gr hadj) (hn : adj.length = n) (hnh : hadj.length = n) (hP : Pt adj par) (hL : Lab n O A) (hR : Rl par q n O A) (hg : Rg adj hadj n O) :
    Edges hadj q hadj.length ∧ Just hadj q := by
  subst hn
  have hi := hP.inc
  constructor
  · intro v' l w hv' hl hw hwv
    have he : EE hadj 0 v' w := ⟨l, hl, hw⟩
    have hwn : w < adj.length := by omega
    have h1 := (hg v' w (by omega) hwn).1 he
    have ha := hL.ao v' (by omega)
    have hb := hL.ao w hwn
    by_cases hlt : O w < O v'
    · have h2 := hR.upf (edges_ee hG hP.ed (EE.sym hG _ _ _ h1) hlt)
      rwa [ha, hb] at h2
    · have hne : O w ≠ O v' := fun e => by rw [e] at hb; omega
      have h2 := hR.later (edges_ee hG hP.ed h1 (by omega))
      rw [ha, hb] at h2
      omega
  · intro i j hij
    obtain ⟨hi', h1 | ⟨m, hm, h1, h2⟩⟩ := hR.back hL hP.fo hij
    · omega
    · obtain ⟨w, h3, h4⟩ := just_of hG hP.qp hP.ed _ _ h1
      have hjm : j = A m := by omega
      subst hjm
      have hwl := EE.lt hG _ _ _ (EE.sym hG _ _ _ h4)
      refine ⟨A w, ?_, ?_⟩
      · have := hR.upf h3
        rwa [hL.ao i hi'] at this
      · rw [hg _ _ (hL.al w hwl) (hL.al m hm), hL.oa w hwl, hL.oa m hm]
        exact h4

/-- Parent of the graph relabelled -/
theorem parent_relab {adj hadj : List (List Int)} {par q : List Int} {n : Nat} {O A : Nat → Nat} (hG : Gr adj) (hH : Gr hadj) (hn : adj.length = n) (hnh : hadj.length = n) (hn2 : n ≤ 200) (hP : Pt adj par) (hL : Lab n O A) (hR : Rl par q n O A) (hg : Rg adj hadj n O) :
    etree_Parent hadj = some (q, 0) ∧ Pt hadj q := by
  obtain ⟨e1, e2⟩ := relab_par hG hH hn hnh hP hL hR hg
  obtain ⟨q', h1, h2⟩ := parent_full hH (by omega)
  have hfo := hR.fo hL hP.fo
  have : q' = q := par_uniq2 hH h2.len (by rw [hR.lq, hnh]) h2.inc (Fo.inc hfo) (just_of hH h2.qp h2.ed) e2 h2.ed e1
  subst this
  exact ⟨h1, h2⟩

/-- what is joined when u goes, in both -/
theorem nn_relab {adj hadj : List (List Int)} {par q : List Int} {n : Nat} {O A : Nat → Nat} (hG : Gr adj) (hH : Gr hadj) (hn : adj.length = n) (hnh : hadj.length = n) (hP : Pt adj par) (hQ : Pt hadj q) (hL : Lab n O A) (hR : Rl par q n O A) (hg : Rg adj hadj n O) {i j : Nat} (hi : i < n) (hj : j < n) :
    NN hadj i j ↔ NN adj (O i) (O j) := by
  subst hn
  rw [nn_iff hH hQ.inc hQ.qp hQ.ed, nn_iff hG hP.inc hP.qp hP.ed]
  have ha := hL.ao i hi
  have hb := hL.ao j hj
  constructor
  · rintro ⟨h1, y, h2, h3⟩
    have hy : y < adj.length := by have := EE.lt hH _ _ _ (EE.sym hH _ _ _ h2); omega
    have h4 := (hg y j hy hj).1 h2
    have h5 := hR.upb hL hP.fo h3
    refine ⟨?_, O y, h4, h5⟩
    -- O y is below O i, and joined to O j
    by_cases hlt : O y < O j
    · have h6 := edges_ee hG hP.ed h4 hlt
      by_cases hij : O i < O j
      · exact hij
      · have h7 := hR.later (up_two hP.inc h6 h5 (by omega))
        rw [ha, hb] at h7
        omega
    · have h6 := edges_ee hG hP.ed (EE.sym hG _ _ _ h4) (by
        have : O y ≠ O j := fun e => EE.irr hG 0 _ (by rw [e] at h4; exact h4)
        omega)
      have h7 := hR.later (h6.trans h5)
      rw [ha, hb] at h7
      omega
  · rintro ⟨h1, x, h2, h3⟩
    have hx : x < adj.length := EE.lt hG _ _ _ (EE.sym hG _ _ _ h2)
    have h4 : EE hadj 0 (A x) j := by
      rw [hg _ _ (hL.al x hx) hj, hL.oa x hx]; exact h2
    have h5 := hR.upf h3
    rw [ha] at h5
    refine ⟨?_, A x, h4, h5⟩
    have hxu := h3.le hP.inc
    have h6 := edges_ee hG hP.ed h2 (by omega)
    have h7 := hR.later (up_two hP.inc h3 h6 (by omega))
    rw [ha, hb] at h7
    by_cases hij : i = j
    · subst hij; omega
    · omega
end Pv
