/- The elimination tree by joining: each edge leads up to its later node. -/
import Derived.Test.YtoelidgkfpmgnaaDoorPlL
namespace Pl
open Sx Go M

def upN (par : List Int) : Nat → Nat → Nat → Prop
  | 0, u, a => u = a
  | k + 1, u, a => ∃ q : Nat, par[u]? = some (q : Int) ∧ upN par k q a
def Up (par : List Int) (u a : Nat) : Prop := ∃ k, upN par k u a
theorem Up.refl (par : List Int) (u : Nat) : Up par u u := ⟨0, rfl⟩
theorem Up.step {par : List Int} {u q a : Nat} (h : par[u]? = some (q : Int)) (h2 : Up par q a) : Up par u a := by
  obtain ⟨k, hk⟩ := h2
  exact ⟨k + 1, q, h, hk⟩
theorem Up.one {par : List Int} {u q : Nat} (h : par[u]? = some (q : Int)) : Up par u q := Up.step h (Up.refl _ _)
theorem Up.ind {par : List Int} {P : Nat → Nat → Prop} (h0 : ∀ u, P u u) (h1 : ∀ (u q a : Nat), par[u]? = some (q : Int) → Up par q a → P q a → P u a) {u a : Nat} (h : Up par u a) : P u a := by
  obtain ⟨k, hk⟩ := h
  induction k generalizing u with
  | zero => obtain rfl : u = a := hk; exact h0 u
  | succ k ih =>
    obtain ⟨q, h2, h3⟩ := hk
    exact h1 u q a h2 ⟨k, h3⟩ (ih h3)
theorem Up.trans {par : List Int} {u a b : Nat} (h : Up par u a) (h2 : Up par a b) : Up par u b :=
  Up.ind (P := fun u a => Up par a b → Up par u b) (fun _ h => h) (fun _ _ _ hq _ ih h => Up.step hq (ih h)) h h2
theorem Up.mono {par par' : List Int} (hm : ∀ (u q : Nat), par[u]? = some (q : Int) → par'[u]? = some (q : Int)) {u a : Nat} (h : Up par u a) : Up par' u a :=
  Up.ind (P := fun u a => Up par' u a) (fun _ => Up.refl _ _) (fun _ _ _ hq _ ih => Up.step (hm _ _ hq) ih) h
theorem Up.le {par : List Int} (hi : ∀ (u : Nat) p, par[u]? = some p → p = -1 ∨ (u : Int) < p) {u a : Nat} (h : Up par u a) : u ≤ a :=
  Up.ind (P := fun u a => u ≤ a) (fun _ => Nat.le_refl _) (fun u q _ hq _ ih => by have := hi u _ hq; omega) h

structure Clean (n v : Nat) (par anc : List Int) : Prop where
  lp : par.length = n
  la : anc.length = n
  inc : ∀ (u : Nat) p, par[u]? = some p → p = -1 ∨ ((u : Int) < p ∧ p ≤ v)
  same : ∀ u : Nat, u < n → (par[u]? = some (-1) ↔ anc[u]? = some (-1))
  an : ∀ (u : Nat) a, anc[u]? = some a → a = -1 ∨ ((u : Int) < a ∧ a ≤ v ∧ Up par u a.toNat)

structure LI (n v w : Nat) (par0 par anc : List Int) (x : Int) : Prop where
  lp : par.length = n
  la : anc.length = n
  inc : ∀ (u : Nat) p, par[u]? = some p → p = -1 ∨ ((u : Int) < p ∧ p ≤ v)
  same : ∀ u : Nat, u < n → (par[u]? = some (-1) ↔ anc[u]? = some (-1))
  xr : x = -1 ∨ (0 ≤ x ∧ x ≤ v)
  here : x ≠ -1 → par = par0 ∧ Up par w x.toNat
  done : x = -1 → ∃ u0 : Nat, par0[u0]? = some (-1) ∧ Up par0 w u0 ∧ u0 < v ∧ par = par0.set u0 (v : Int)
  an : ∀ (u : Nat) a, anc[u]? = some a → a = -1 ∨ ((u : Int) < a ∧ a ≤ v ∧ (Up par u a.toNat ∨ (a = v ∧ x ≠ -1 ∧ (u : Int) < x ∧ Up par u x.toNat)))

theorem set_mono {par : List Int} {u0 : Nat} {z : Int} (h : par[u0]? = some (-1)) : ∀ (u q : Nat), par[u]? = some (q : Int) → (par.set u0 z)[u]? = some (q : Int) := by
  intro u q hq
  rw [List.getElem?_set, if_neg]
  · exact hq
  · rintro rfl
    rw [h] at hq
    have := Option.some.inj hq
    omega

theorem join_ok {n v w : Nat} {par0 anc0 : List Int} (hw : w < v) (hv : v < n) (hn : n < 1000000) (hC : Clean n v par0 anc0) : ∃ par anc, etree_forest_join par0 anc0 (w : Int) (v : Int) = some (par, anc) ∧ Clean n v par anc ∧ Up par w v ∧
    (par = par0 ∨ ∃ u0 : Nat, par0[u0]? = some (-1) ∧ Up par0 w u0 ∧ u0 < v ∧ par = par0.set u0 (v : Int)) := by
  unfold etree_forest_join
  obtain ⟨o, h1, h2⟩ := whileG (step := etree_forest_join_l5 (v : Int)) (s := (par0, anc0, (w : Int))) (fun s => LI n v w par0 s.1 s.2.1 s.2.2)
      (fun o => Clean n v o.1 o.2 ∧ Up o.1 w v ∧ (o.1 = par0 ∨ ∃ u0 : Nat, par0[u0]? = some (-1) ∧ Up par0 w u0 ∧ u0 < v ∧ o.1 = par0.set u0 (v : Int))) (fun s => if s.2.2 < 0 then 0 else (v + 1 - s.2.2.toNat))
      ⟨hC.lp, hC.la, hC.inc, hC.same, .inr ⟨by simp only; omega, by simp only; omega⟩, fun _ => ⟨rfl, Up.refl _ _⟩, fun h => by simp only at h; omega, fun u a h => (hC.an u a h).imp id fun h => ⟨h.1, h.2.1, .inl h.2.2⟩⟩
      (by simp only; split <;> omega) (by
      rintro ⟨par, anc, x⟩ hI
      have hI' : LI n v w par0 par anc x := hI
      clear hI
      unfold etree_forest_join_l5
      simp only
      by_cases hc : x ≠ -1 ∧ x < (v : Int)
      · rw [if_pos (by simpa using hc)]
        have hx0 : 0 ≤ x := by have := hI'.xr; omega
        obtain ⟨k, rfl⟩ := Int.eq_ofNat_of_zero_le hx0
        have hkv : k < v := by omega
        have hka : k < anc.length := by rw [hI'.la]; omega
        have hkp : k < par.length := by rw [hI'.lp]; omega
        have hga : anc[k]? = some anc[k] := by simp [hka]
        obtain ⟨hpp, hup⟩ := hI'.here hc.1
        subst hpp
        simp only [Int.toNat_natCast] at hup
        rw [bindS (getI_lt hka), bindS (setI_lt hka)]
        unfold etree_forest_join_j7
        by_cases hne : anc[k] = -1
        · rw [if_pos hne, bindS (setI_lt hkp)]
          have hpk : par[k]? = some (-1) := (hI'.same k (by omega)).2 (by rw [hga, hne])
          have hm := set_mono (z := (v : Int)) hpk
          have hkv' : (par.set k (v : Int))[k]? = some (v : Int) := by rw [List.getElem?_set, if_pos rfl, if_pos hkp]
          refine .inl ⟨_, rfl, ?_, by simp only [hne]; rw [if_pos (by omega), if_neg (by omega)]; omega⟩
          refine ⟨by simp [hI'.lp], by simp [hI'.la], fun u p hp => ?_, fun u hu => ?_, .inl hne, fun h => absurd hne h, fun _ => ⟨k, hpk, hup, hkv, rfl⟩, fun u a ha => ?_⟩
          · simp only [List.getElem?_set] at hp
            by_cases hku : k = u
            · subst hku
              rw [if_pos rfl, if_pos hkp] at hp
              have := Option.some.inj hp
              omega
            · rw [if_neg hku] at hp
              exact hI'.inc u p hp
          · simp only [List.getElem?_set]
            by_cases hku : k = u
            · subst hku
              rw [if_pos rfl, if_pos rfl, if_pos hkp, if_pos hka]
            · rw [if_neg hku, if_neg hku]
              exact hI'.same u hu
          · simp only [List.getElem?_set] at ha ⊢
            by_cases hku : k = u
            · subst hku
              rw [if_pos rfl, if_pos hka] at ha
              have := Option.some.inj ha
              subst this
              exact .inr ⟨by omega, by omega, .inl (by simpa using Up.one hkv')⟩
            · rw [if_neg hku] at ha
              rcases hI'.an u a ha with h | ⟨h3, h4, h5 | ⟨h5, _, _, h6⟩⟩
              · exact .inl h
              · exact .inr ⟨h3, h4, .inl (h5.mono hm)⟩
              · subst h5
                refine .inr ⟨h3, h4, .inl ?_⟩
                simp only [Int.toNat_natCast] at h6 ⊢
                exact (h6.mono hm).trans (Up.one hkv')
        · rw [if_neg hne]
          rcases hI'.an k _ hga with h | ⟨h3, h4, h5⟩
          · exact absurd h hne
          · have h5' : Up par k anc[k].toNat := by
              rcases h5 with h5 | ⟨_, _, h6, _⟩
              · exact h5
              · omega
            refine .inl ⟨_, rfl, ?_, by simp only; rw [if_neg (by omega), if_neg (by omega)]; omega⟩
            refine ⟨hI'.lp, by simp [hI'.la], hI'.inc, fun u hu => ?_, .inr ⟨by simp only; omega, h4⟩, fun _ => ⟨rfl, hup.trans h5'⟩, fun h => absurd h hne, fun u a ha => ?_⟩
            · simp only [List.getElem?_set]
              by_cases hku : k = u
              · subst hku
                rw [if_pos rfl, if_pos hka, hI'.same k hu, hga]
                simp only [Option.some.injEq]
                constructor
                · intro h; exact absurd h hne
                · intro h; omega
              · rw [if_neg hku]
                exact hI'.same u hu
            · simp only [List.getElem?_set] at ha ⊢
              by_cases hku : k = u
              · subst hku
                rw [if_pos rfl, if_pos hka] at ha
                have := Option.some.inj ha
                subst this
                exact .inr ⟨by omega, by omega, .inr ⟨rfl, hne, h3, h5'⟩⟩
              · rw [if_neg hku] at ha
                rcases hI'.an u a ha with h | ⟨h6, h7, h8 | ⟨h8, _, h9, h10⟩⟩
                · exact .inl h
                · exact .inr ⟨h6, h7, .inl h8⟩
                · simp only [Int.toNat_natCast] at h10
                  exact .inr ⟨h6, h7, .inr ⟨h8, hne, by omega, h10.trans h5'⟩⟩
      · rw [if_neg (by simpa using hc)]
        refine .inr ⟨_, rfl, ?_⟩
        by_cases hx : x = -1
        · subst hx
          obtain ⟨u0, g1, g2, g3, g4⟩ := hI'.done rfl
          refine ⟨⟨hI'.lp, hI'.la, hI'.inc, hI'.same, fun u a ha => ?_⟩, ?_, .inr ⟨u0, g1, g2, g3, g4⟩⟩
          · rcases hI'.an u a ha with h | ⟨h6, h7, h8 | ⟨_, h8, _⟩⟩
            · exact .inl h
            · exact .inr ⟨h6, h7, h8⟩
            · exact absurd rfl h8
          · simp only
            have hu0 : u0 < par0.length := (List.getElem?_eq_some_iff.1 g1).1
            have hm := set_mono (z := (v : Int)) g1
            rw [g4]
            exact (g2.mono hm).trans (Up.one (by rw [List.getElem?_set, if_pos rfl, if_pos hu0]))
        · have hxv : x = (v : Int) := by have := hI'.xr; omega
          subst hxv
          obtain ⟨hpp, hup⟩ := hI'.here hx
          simp only [Int.toNat_natCast] at hup
          refine ⟨⟨hI'.lp, hI'.la, hI'.inc, hI'.same, fun u a ha => ?_⟩, hup, .inl hpp⟩
          rcases hI'.an u a ha with h | ⟨h6, h7, h8 | ⟨rfl, _, _, h8⟩⟩
          · exact .inl h
          · exact .inr ⟨h6, h7, h8⟩
          · exact .inr ⟨h6, h7, h8⟩)
  rw [bindS h1]
  exact ⟨_, _, rfl, h2⟩

theorem join_no {par0 anc0 : List Int} {w v : Nat} (hw : v ≤ w) : etree_forest_join par0 anc0 (w : Int) (v : Int) = some (par0, anc0) := by
  unfold etree_forest_join
  obtain ⟨o, h1, h2⟩ := whileG (step := etree_forest_join_l5 (v : Int)) (s := (par0, anc0, (w : Int))) (fun s => s = (par0, anc0, (w : Int))) (fun o => o = (par0, anc0)) (fun _ => 0) rfl (by omega) (by
    rintro s rfl
    unfold etree_forest_join_l5
    simp only
    rw [if_neg (by simp; omega)]
    exact .inr ⟨_, rfl, rfl⟩)
  rw [bindS h1, h2]

theorem newForest_ok {n : Nat} (hn : n < 1000000) : etree_newForest (n : Int) = some (List.replicate n (-1), List.replicate n (-1)) := by
  unfold etree_newForest
  rw [bindS (mkL_nat 0 n (by omega)), bindS (mkL_nat 0 n (by omega))]
  obtain ⟨o, h1, h2⟩ := forG (step := etree_newForest_l2 (n : Int)) (fun k (s : List Int × List Int) => (s.1, s.2, (k : Int))) n (by omega)
      (fun k s => (s.1.length = n ∧ ∀ u, u < n → s.1[u]? = some (if u < k then -1 else 0)) ∧ (s.2.length = n ∧ ∀ u, u < n → s.2[u]? = some (if u < k then -1 else 0)))
      (fun o => o = (List.replicate n (-1), List.replicate n (-1))) (s0 := (List.replicate n 0, List.replicate n 0)) ⟨⟨by simp, fun u hu => by simp [hu]⟩, ⟨by simp, fun u hu => by simp [hu]⟩⟩ (by
        rintro k ⟨s, t⟩ hk ⟨⟨h1, h2⟩, ⟨h3, h4⟩⟩
        simp only at h1 h2 h3 h4
        unfold etree_newForest_l2
        simp only
        rw [if_pos (by omega), bindS (setI_lt (by omega)), bindS (setI_lt (by omega)), wa1 (by omega)]
        have key : ∀ (s : List Int), s.length = n → (∀ u, u < n → s[u]? = some (if u < k then -1 else 0)) → (s.set k (-1)).length = n ∧ ∀ u, u < n → (s.set k (-1))[u]? = some (if u < k + 1 then -1 else 0) := by
          intro s hs hg
          refine ⟨by simp [hs], fun u hu => ?_⟩
          rw [List.getElem?_set]
          by_cases hku : k = u
          · rw [if_pos hku, if_pos (by omega), if_pos (by omega)]
          · rw [if_neg hku, hg u hu]
            by_cases hlt : u < k
            · rw [if_pos hlt, if_pos (by omega)]
            · rw [if_neg hlt, if_neg (by omega)]
        exact .inl ⟨(s.set k (-1), t.set k (-1)), rfl, key s h1 h2, key t h3 h4⟩) (by
        rintro ⟨s, t⟩ ⟨⟨h1, h2⟩, ⟨h3, h4⟩⟩
        simp only at h1 h2 h3 h4
        unfold etree_newForest_l2
        simp only
        rw [if_neg (by omega)]
        have key : ∀ (s : List Int), s.length = n → (∀ u, u < n → s[u]? = some (if u < n then -1 else 0)) → s = List.replicate n (-1) := by
          intro s hs hg
          apply List.ext_getElem?
          intro j
          by_cases hj : j < n
          · rw [hg j hj, if_pos hj]; simp [hj]
          · rw [List.getElem?_eq_none (by omega), List.getElem?_eq_none (by simp; omega)]
        exact ⟨_, rfl, by rw [key s h1 h2, key t h3 h4]⟩)
  have h1' : loop (etree_newForest_l2 (n : Int)) (List.replicate n 0, List.replicate n 0, 0) = some o := h1
  rw [bindS h1', h2]

theorem rep_mem {n u : Nat} {p : Int} (h : (List.replicate n (-1 : Int))[u]? = some p) : p = -1 := by
  rw [List.getElem?_replicate] at h
  split at h
  · exact (Option.some.inj h).symm
  · cases h
/-- the edges into nodes below v lead up -/
def Edges (adj : List (List Int)) (par : List Int) (v : Nat) : Prop := ∀ (v' : Nat) l (w : Nat), v' < v → adj[v']? = some l → (w : Int) ∈ l → w < v' → Up par w v'

theorem parent_ok {adj : List (List Int)} (hG : Gr adj) (hn : adj.length ≤ 200) (Q : List Int → Prop) (hQ0 : Q (List.replicate adj.length (-1)))
    (hQ : ∀ (v w u0 : Nat) l par, adj[v]? = some l → (w : Int) ∈ l → w < v → Edges adj par v → (∀ (u : Nat) p, par[u]? = some p → p = -1 ∨ ((u : Int) < p ∧ p ≤ v)) → par.length = adj.length → Q par → Up par w u0 → par[u0]? = some (-1) → u0 < v → Q (par.set u0 (v : Int))) :
    ∃ par, etree_Parent adj = some (par, 0) ∧ par.length = adj.length ∧ Fo par ∧ Edges adj par adj.length ∧ Q par := by
  unfold etree_Parent
  rw [bindS (graphCheck_ok hG hn), if_pos rfl, bindS (newForest_ok (by omega))]
  obtain ⟨o, h1, h2⟩ := forG (step := etree_Parent_l3 adj) (fun k (s : List Int × List Int) => (s.1, s.2, (k : Int))) adj.length (by omega)
      (fun v s => Clean adj.length (v - 1) s.1 s.2 ∧ Edges adj s.1 v ∧ Q s.1)
      (fun o => Clean adj.length (adj.length - 1) o.1 o.2 ∧ Edges adj o.1 adj.length ∧ Q o.1) (s0 := (List.replicate adj.length (-1), List.replicate adj.length (-1)))
      ⟨⟨by simp, by simp, fun u p hp => .inl (rep_mem hp), fun u hu => by simp [hu], fun u a ha => .inl (rep_mem ha)⟩, fun v' l w h => by omega, hQ0⟩ (by
        rintro v ⟨par, anc⟩ hv ⟨hC, hE, hq⟩
        simp only at hC hE hq
        have hg : adj[v]? = some adj[v] := by simp [hv]
        have hlen := hG.len hg
        have hC' : Clean adj.length v par anc := ⟨hC.lp, hC.la, fun u p hp => (hC.inc u p hp).imp id fun h => ⟨h.1, by omega⟩, hC.same, fun u a ha => (hC.an u a ha).imp id fun h => ⟨h.1, by omega, h.2.2⟩⟩
        obtain ⟨o, h1, h2⟩ := forG (step := etree_Parent_l4 adj[v] (v : Int)) (fun k (s : List Int × List Int) => (s.1, s.2, (k : Int))) adj[v].length (by omega)
          (fun j s => Clean adj.length v s.1 s.2 ∧ Edges adj s.1 v ∧ Q s.1 ∧ ∀ (i w : Nat), i < j → adj[v][i]? = some (w : Int) → w < v → Up s.1 w v)
          (fun o => Clean adj.length v o.1 o.2 ∧ Edges adj o.1 (v + 1) ∧ Q o.1) (s0 := (par, anc)) ⟨hC', hE, hq, fun i w h => by omega⟩ (by
            rintro j ⟨par, anc⟩ hj ⟨hC, hE, hq, hd⟩
            simp only at hC hE hq hd
            have hr := hG.rng v _ _ hg (List.getElem_mem hj)
            obtain ⟨w, hw⟩ := Int.eq_ofNat_of_zero_le hr.1
            have hgw : adj[v][j]? = some (w : Int) := by rw [← hw]; simp [hj]
            have hmem : (w : Int) ∈ adj[v] := hw ▸ List.getElem_mem hj
            unfold etree_Parent_l4
            simp only
            rw [if_pos (by omega), bindS (getI_lt hj), hw]
            by_cases hwv : w < v
            · obtain ⟨par', anc', k1, k2, k3, k4⟩ := join_ok hwv hv (by omega) hC
              rw [bindS k1, wa1 (by omega)]
              have hm : ∀ (u q : Nat), par[u]? = some (q : Int) → par'[u]? = some (q : Int) := by
                rcases k4 with rfl | ⟨u0, g1, _, _, rfl⟩
                · exact fun _ _ h => h
                · exact set_mono g1
              refine .inl ⟨(par', anc'), rfl, k2, fun v' l w' h3 h4 h5 h6 => (hE v' l w' h3 h4 h5 h6).mono hm, ?_, fun i w' hi hw' hw'v => ?_⟩
              · rcases k4 with rfl | ⟨u0, g1, g2, g3, rfl⟩
                · exact hq
                · exact hQ v w u0 _ par hg hmem hwv hE hC.inc hC.lp hq g2 g1 g3
              · by_cases hij : i = j
                · subst hij
                  rw [hgw] at hw'
                  have := Option.some.inj hw'
                  obtain rfl : w = w' := by omega
                  exact k3
                · exact (hd i w' (by omega) hw' hw'v).mono hm
            · rw [bindS (join_no (by omega)), wa1 (by omega)]
              refine .inl ⟨(par, anc), rfl, hC, hE, hq, fun i w' hi hw' hw'v => ?_⟩
              by_cases hij : i = j
              · subst hij
                rw [hgw] at hw'
                have := Option.some.inj hw'
                omega
              · exact hd i w' (by omega) hw' hw'v) (by
            rintro ⟨par, anc⟩ ⟨hC, hE, hq, hd⟩
            simp only at hC hE hq hd
            unfold etree_Parent_l4
            simp only
            rw [if_neg (by omega)]
            refine ⟨_, rfl, hC, fun v' l w h3 h4 h5 h6 => ?_, hq⟩
            by_cases hvv : v' = v
            · subst hvv
              rw [hg] at h4
              have := Option.some.inj h4
              subst this
              obtain ⟨i, hi, he⟩ := List.mem_iff_getElem.1 h5
              exact hd i w hi (by rw [← he]; simp [hi]) h6
            · exact hE v' l w (by omega) h4 h5 h6)
        have h1' : loop (etree_Parent_l4 adj[v] (v : Int)) (par, anc, 0) = some o := h1
        unfold etree_Parent_l3
        simp only
        rw [if_pos (by omega), bindS (getI_lt hv), bindS h1', wa1 (by omega)]
        exact .inl ⟨o, rfl, by simpa using h2.1, h2.2.1, h2.2.2⟩) (by
        rintro ⟨par, anc⟩ hI
        unfold etree_Parent_l3
        simp only
        rw [if_neg (by omega)]
        exact ⟨_, rfl, hI⟩)
  have h1' : loop (etree_Parent_l3 adj) (List.replicate adj.length (-1), List.replicate adj.length (-1), 0) = some o := h1
  rw [bindS h1']
  obtain ⟨hC, hE, hq⟩ := h2
  refine ⟨o.1, rfl, hC.lp, fun k hk p hp => ?_, hE, hq⟩
  rw [hC.lp] at hk ⊢
  have := hC.inc k p hp
  omega
end Pl
