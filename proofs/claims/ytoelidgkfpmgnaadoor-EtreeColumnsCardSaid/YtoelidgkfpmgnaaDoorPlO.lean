/- Elimination as the document has it, and the tree that joining makes: they are the same. -/
import Derived.Test.YtoelidgkfpmgnaaDoorPlN
namespace Pl
open Sx Go M

/-- who is joined to whom when k nodes are eliminated -/
def EE (adj : List (List Int)) : Nat → Nat → Nat → Prop
  | 0, i, j => ∃ l, adj[i]? = some l ∧ (j : Int) ∈ l
  | k + 1, i, j => EE adj k i j ∨ (i ≠ j ∧ k ≤ i ∧ k ≤ j ∧ EE adj k k i ∧ EE adj k k j)
theorem EE.sym {adj : List (List Int)} (hG : Gr adj) : ∀ k i j, EE adj k i j → EE adj k j i := by
  intro k
  induction k with
  | zero =>
    rintro i j ⟨l, h1, h2⟩
    obtain ⟨m, h3, h4⟩ := hG.sym i l _ h1 h2
    exact ⟨m, by simpa using h3, h4⟩
  | succ k ih =>
    rintro i j (h | ⟨h1, h2, h3, h4, h5⟩)
    · exact .inl (ih i j h)
    · exact .inr ⟨fun h => h1 h.symm, h3, h2, h5, h4⟩
theorem EE.irr {adj : List (List Int)} (hG : Gr adj) : ∀ k i, ¬ EE adj k i i := by
  intro k
  induction k with
  | zero =>
    rintro i ⟨l, h1, h2⟩
    exact (hG.rng i l _ h1 h2).2.2 rfl
  | succ k ih =>
    rintro i (h | ⟨h1, _⟩)
    · exact ih i h
    · exact h1 rfl
theorem EE.lt {adj : List (List Int)} (hG : Gr adj) : ∀ k i j, EE adj k i j → j < adj.length := by
  intro k
  induction k with
  | zero =>
    rintro i j ⟨l, h1, h2⟩
    have := hG.rng i l _ h1 h2
    omega
  | succ k ih =>
    rintro i j (h | ⟨_, _, _, _, h⟩)
    · exact ih i j h
    · exact ih k j h
theorem EE.mono {adj : List (List Int)} {k i j : Nat} (h : EE adj k i j) : ∀ d, EE adj (k + d) i j := by
  intro d
  induction d with
  | zero => exact h
  | succ d ih => exact .inl ih
/-- what u is joined to when its turn comes -/
def NN (adj : List (List Int)) (u w : Nat) : Prop := EE adj u u w ∧ u < w
theorem NN.edge {adj : List (List Int)} {u w : Nat} (h : EE adj 0 u w) (hw : u < w) : NN adj u w := by
  have := h.mono u
  rw [Nat.zero_add] at this
  exact ⟨this, hw⟩
theorem NN.fill {adj : List (List Int)} {u a b : Nat} (ha : NN adj u a) (hb : NN adj u b) (hab : a < b) : NN adj a b := by
  have h : EE adj (u + 1) a b := .inr ⟨by omega, by have := ha.2; omega, by have := hb.2; omega, ha.1, hb.1⟩
  have h2 := h.mono (a - (u + 1))
  rw [show u + 1 + (a - (u + 1)) = a by have := ha.2; omega] at h2
  exact ⟨h2, hab⟩
theorem EE.back {adj : List (List Int)} : ∀ k i j, EE adj k i j → EE adj 0 i j ∨ ∃ c, c < k ∧ c ≤ i ∧ c ≤ j ∧ EE adj c c i ∧ EE adj c c j := by
  intro k
  induction k with
  | zero => exact fun i j h => .inl h
  | succ k ih =>
    rintro i j (h | ⟨_, h2, h3, h4, h5⟩)
    · exact (ih i j h).imp id fun ⟨c, h1, h2⟩ => ⟨c, by omega, h2⟩
    · exact .inr ⟨k, by omega, h2, h3, h4, h5⟩
theorem NN.back {adj : List (List Int)} {u v : Nat} (h : NN adj u v) : EE adj 0 u v ∨ ∃ c, c < u ∧ NN adj c u ∧ NN adj c v := by
  rcases EE.back u u v h.1 with h1 | ⟨c, h1, _, _, h4, h5⟩
  · exact .inl h1
  · exact .inr ⟨c, h1, ⟨h4, h1⟩, ⟨h5, by have := h.2; omega⟩⟩
/-- the least -/
def Isq (adj : List (List Int)) (u m : Nat) : Prop := NN adj u m ∧ ∀ w, NN adj u w → m ≤ w
theorem Isq.uniq {adj : List (List Int)} {u m m' : Nat} (h : Isq adj u m) (h' : Isq adj u m') : m = m' := by
  have := h.2 _ h'.1
  have := h'.2 _ h.1
  omega
theorem NN.least {adj : List (List Int)} {u : Nat} : ∀ w, NN adj u w → ∃ m, Isq adj u m ∧ m ≤ w := by
  intro w
  induction w using Nat.strongRecOn with
  | _ w ih =>
    intro h
    by_cases hex : ∃ w', NN adj u w' ∧ w' < w
    · obtain ⟨w', h1, h2⟩ := hex
      obtain ⟨m, h3, h4⟩ := ih w' h2 h1
      exact ⟨m, h3, by omega⟩
    · refine ⟨w, ⟨h, fun w' hw' => ?_⟩, Nat.le_refl _⟩
      by_cases hlt : w' < w
      · exact absurd ⟨w', hw', hlt⟩ hex
      · omega

inductive Upq (adj : List (List Int)) : Nat → Nat → Prop
  | refl (u : Nat) : Upq adj u u
  | step {u q a : Nat} : Isq adj u q → Upq adj q a → Upq adj u a
theorem Upq.snoc {adj : List (List Int)} {u q a : Nat} (h : Upq adj u q) (h2 : Isq adj q a) : Upq adj u a := by
  induction h with
  | refl u => exact .step h2 (.refl _)
  | step h1 _ ih => exact .step h1 (ih h2)
theorem Upq.le {adj : List (List Int)} {u a : Nat} (h : Upq adj u a) : u ≤ a := by
  induction h with
  | refl u => exact Nat.le_refl _
  | step h1 _ ih => have := h1.1.2; omega

/-- a node joined to m comes down to an edge -/
theorem NN.root {adj : List (List Int)} {m : Nat} : ∀ u, NN adj u m → ∃ w, EE adj 0 w m ∧ Upq adj w u := by
  intro u
  induction u using Nat.strongRecOn with
  | _ u ih =>
    intro h
    rcases h.back with h1 | ⟨c, h1, h2, h3⟩
    · exact ⟨u, h1, .refl u⟩
    · have key : ∀ d c, d = u - c → c < u → NN adj c u → NN adj c m → ∃ c', c' < u ∧ Isq adj c' u ∧ NN adj c' m := by
        intro d
        induction d using Nat.strongRecOn with
        | _ d ihd =>
          intro c hd hc h2 h3
          obtain ⟨q, hq, hqu⟩ := NN.least u h2
          by_cases he : q = u
          · subst he; exact ⟨c, hc, hq, h3⟩
          · have hcq := hq.1.2
            have hum := h.2
            exact ihd (u - q) (by omega) q rfl (by omega) (hq.1.fill h2 (by omega)) (hq.1.fill h3 (by omega))
      obtain ⟨c', k1, k2, k3⟩ := key _ c rfl h1 h2 h3
      obtain ⟨w, k4, k5⟩ := ih c' k1 k3
      exact ⟨w, k4, k5.snoc k2⟩

def QP (adj : List (List Int)) (par : List Int) : Prop := ∀ (u p : Nat), par[u]? = some (p : Int) → Isq adj u p

theorem stage {adj : List (List Int)} (hG : Gr adj) {par : List Int} {v : Nat} (hq : QP adj par) (hE : Edges adj par v) {u m : Nat} (hm : Isq adj u m) (hmv : m < v) : par[u]? = some (m : Int) := by
  obtain ⟨w, h1, h2⟩ := NN.root u hm.1
  have hum := hm.1.2
  have hwu := h2.le
  obtain ⟨l, h3, h4⟩ := EE.sym hG 0 w m h1
  have hup : Up par w m := hE m l w hmv h3 h4 (by omega)
  clear h1 h3 h4
  induction h2 with
  | refl u =>
    rcases hup.cases with h | ⟨p, h5, _⟩
    · omega
    · rw [h5, (hq u p h5).uniq hm]
  | step h1 h2' ih =>
    rcases hup.cases with h | ⟨p, h5, h6⟩
    · omega
    · have := (hq _ p h5).uniq h1
      subst this
      exact ih hm hum (h2'.le) h6

theorem chain_nn {adj : List (List Int)} {par : List Int} (hq : QP adj par) (hinc : ∀ (u : Nat) p, par[u]? = some p → p = -1 ∨ (u : Int) < p) {w u0 v : Nat} (h : Up par w u0) (hv : NN adj w v) (hu : u0 < v) : NN adj u0 v := by
  refine Up.ind (par := par) (P := fun w u0 => u0 < v → NN adj w v → NN adj u0 v) (fun _ _ h => h) (fun u q a h1 h2 ih ha hn => ?_) h hu hv
  have hle := h2.le hinc
  exact ih ha ((hq u q h1).1.fill hn (by omega))

theorem qp_step {adj : List (List Int)} (hG : Gr adj) {v w u0 : Nat} {l : List Int} {par : List Int} (h1 : adj[v]? = some l) (h2 : (w : Int) ∈ l) (h3 : w < v) (hE : Edges adj par v) (hinc : ∀ (u : Nat) p, par[u]? = some p → p = -1 ∨ (u : Int) < p)
    (hq : QP adj par) (hup : Up par w u0) (h4 : par[u0]? = some (-1)) (h5 : u0 < v) : QP adj (par.set u0 (v : Int)) := by
  intro u p hp
  rw [List.getElem?_set] at hp
  by_cases hu : u0 = u
  · subst hu
    rw [if_pos rfl, if_pos (List.getElem?_eq_some_iff.1 h4).1] at hp
    have := Option.some.inj hp
    obtain rfl : v = p := by omega
    have hn := chain_nn hq hinc hup (NN.edge (EE.sym hG 0 v w ⟨l, h1, h2⟩) h3) h5
    refine ⟨hn, fun w' hw' => ?_⟩
    obtain ⟨m, hm, hmw⟩ := NN.least w' hw'
    by_cases hmv : m < v
    · have := stage hG hq hE hm hmv
      rw [h4] at this
      have := Option.some.inj this
      omega
    · omega
  · rw [if_neg hu] at hp
    exact hq u p hp

theorem qp_all {adj : List (List Int)} (hG : Gr adj) {par : List Int} (hq : QP adj par) (hE : Edges adj par adj.length) (u : Nat) : par[u]? = some (-1) → ∀ w, ¬ NN adj u w := by
  intro h w hw
  obtain ⟨m, hm, _⟩ := NN.least w hw
  have := stage hG hq hE hm (EE.lt hG _ _ _ hm.1.1)
  rw [h] at this
  have := Option.some.inj this
  omega
end Pl
