/- Postorder of a forest is a permutation; where each subtree lies in it; Perm and Invert; the law of the subtrees. -/
import Derived.Test.YtoelidgkfpmgnaaDoorPlG
import Derived.KernelRfl
namespace Pl
open Sx Go M

/-! ### how often a node stands in the postorder -/
theorem POk_count {par : List Int} (g : Nat → List Int) (u : Int) : ∀ k t, ((POk par g k t).count u) = sm (fun c => if par[c]? = some t then (g c).count u else 0) k := by
  intro k
  induction k with
  | zero => intro t; rfl
  | succ k ih =>
    intro t
    rw [POk, sm, List.count_append, ih]
    split <;> simp
theorem A_sum {par : List Int} (hF : Fo par) (p u : Nat) (hu : u < par.length) : ∀ k, k ≤ par.length → A par k u p = (if u = p then 1 else 0) + sm (fun c => if par[c]? = some (p : Int) then A par (c + 1) u c else 0) k := by
  intro k
  induction k with
  | zero =>
    intro _
    rw [A_def hF hu, sm]
    split
    · rfl
    · rw [if_neg (by omega)]
  | succ k ih =>
    intro hk
    have hg : par[k]? = some par[k] := by simp [show k < par.length by omega]
    rw [A_step hF (by omega) p _ u rfl hu, ih (by omega), sm, hg]
    simp only [Option.some.injEq]
    omega
theorem PO_count {par : List Int} (hF : Fo par) (u : Nat) (hu : u < par.length) : ∀ f p, p < f → p < par.length → (PO par f p).count (u : Int) = A par (p + 1) u p := by
  intro f
  induction f with
  | zero => intro p h; omega
  | succ f ih =>
    intro p hf hp
    have h1 : A par (p + 1) u p = A par p u p := by
      rw [A_step hF hp p _ u rfl hu, if_neg]
      · rfl
      · have := hF p hp par[p] (by simp [hp])
        omega
    rw [PO, List.count_append, POk_count, h1, A_sum hF p u hu p (by omega)]
    have h2 : sm (fun c => if par[c]? = some (p : Int) then (PO par f c).count (u : Int) else 0) p = sm (fun c => if par[c]? = some (p : Int) then A par (c + 1) u c else 0) p := by
      refine sm_congr p fun c hc => ?_
      split
      · exact ih c (by omega) (by omega)
      · rfl
    rw [h2, Nat.add_comm]
    congr 1
    by_cases h : u = p
    · subst h; simp
    · rw [if_neg h]; exact List.count_eq_zero_of_not_mem (by simp; omega)
theorem sm_zero {g : Nat → Nat} : ∀ n, (∀ v, v < n → g v = 0) → sm g n = 0 := by
  intro n h
  induction n with
  | zero => rfl
  | succ n ih => rw [sm, ih (fun v hv => h v (by omega)), h n (by omega)]
theorem sm_one {g : Nat → Nat} {u : Nat} : ∀ n, u < n → g u = 1 → (∀ v, v < n → v ≠ u → g v = 0) → sm g n = 1 := by
  intro n
  induction n with
  | zero => intro h; omega
  | succ n ih =>
    intro hu h1 h2
    rw [sm]
    by_cases h : u = n
    · subst h
      rw [h1, sm_zero u (fun v hv => h2 v (by omega) (by omega))]
    · rw [ih (by omega) h1 (fun v hv => h2 v (by omega)), h2 n (by omega) (by omega)]
/-- every node stands below one root -/
theorem root_one {par : List Int} (hF : Fo par) : ∀ m u, m = par.length - u → u < par.length → sm (fun c => if par[c]? = some (-1) then A par (c + 1) u c else 0) par.length = 1 := by
  intro m
  induction m using Nat.strongRecOn with
  | _ m ih =>
    intro u hm hu
    have hg : par[u]? = some par[u] := by simp [hu]
    by_cases h0 : par[u] = -1
    · refine sm_one par.length hu ?_ fun v hv hvu => ?_
      · rw [hg, if_pos (by rw [h0]), A_def hF hu, if_pos rfl]
      · split
        · rw [A_def hF hu, if_neg (by omega), if_pos h0]
          split <;> rfl
        · rfl
    · have h1 := (hF u hu _ hg).resolve_left h0
      refine Eq.trans ?_ (ih (par.length - par[u].toNat) (by omega) par[u].toNat rfl (by omega))
      refine sm_congr _ fun c hc => ?_
      split
      · rename_i hc1
        rw [A_def hF hu]
        have : u ≠ c := by
          rintro rfl; rw [hg] at hc1; exact h0 (Option.some.inj hc1)
        rw [if_neg this, if_neg h0]
        split
        · rfl
        · exact (A_above hF _ par[u].toNat c rfl (by omega) (by omega)).symm
      · rfl
theorem post_count {par : List Int} (hF : Fo par) (hn : par.length ≤ 20) (u : Nat) (hu : u < par.length) : (POk par (PO par FUEL) par.length (-1)).count (u : Int) = 1 := by
  rw [POk_count, ← root_one hF _ u rfl hu]
  refine sm_congr _ fun c hc => ?_
  split
  · exact PO_count hF u hu FUEL c (by unfold FUEL; omega) hc
  · rfl
theorem PO_mem {par : List Int} : ∀ f p, p < par.length → ∀ x, x ∈ PO par f p → 0 ≤ x ∧ x < par.length := by
  intro f
  induction f with
  | zero => intro p _ x hx; simp [PO] at hx
  | succ f ih =>
    intro p hp x hx
    rw [PO, List.mem_append] at hx
    rcases hx with hx | hx
    · have : ∀ k t, k ≤ par.length → x ∈ POk par (PO par f) k t → 0 ≤ x ∧ x < par.length := by
        intro k
        induction k with
        | zero => intro t _ h; simp [POk] at h
        | succ k ihk =>
          intro t hk h
          rw [POk, List.mem_append] at h
          rcases h with h | h
          · exact ihk t (by omega) h
          · split at h
            · exact ih k (by omega) x h
            · simp at h
      exact this p _ (by omega) hx
    · simp at hx; omega
theorem POk_mem {par : List Int} (f : Nat) (x : Int) : ∀ k t, k ≤ par.length → x ∈ POk par (PO par f) k t → 0 ≤ x ∧ x < par.length := by
  intro k
  induction k with
  | zero => intro t _ h; simp [POk] at h
  | succ k ihk =>
    intro t hk h
    rw [POk, List.mem_append] at h
    rcases h with h | h
    · exact ihk t (by omega) h
    · split at h
      · exact PO_mem f k (by omega) x h
      · simp at h

/-! ### a list in which each of 0 .. n-1 stands once -/
def PermN (L : List Int) (n : Nat) : Prop := (∀ x, x ∈ L → 0 ≤ x ∧ x < n) ∧ ∀ u : Nat, u < n → L.count (u : Int) = 1
theorem PermN.nodup {L : List Int} {n : Nat} (h : PermN L n) : L.Nodup := by
  rw [List.nodup_iff_count]
  intro x
  by_cases hx : x ∈ L
  · have h1 := h.1 x hx
    have h2 := h.2 x.toNat (by omega)
    rw [show ((x.toNat : Nat) : Int) = x by omega] at h2
    omega
  · rw [List.count_eq_zero_of_not_mem hx]; omega
theorem PermN.perm {L : List Int} {n : Nat} (h : PermN L n) : L.Perm ((List.range n).map fun (u : Nat) => (u : Int)) := by
  rw [List.perm_iff_count]
  intro x
  by_cases hx : 0 ≤ x ∧ x < n
  · have h2 := h.2 x.toNat (by omega)
    rw [show ((x.toNat : Nat) : Int) = x by omega] at h2
    rw [h2]
    symm
    have h3 : ((List.range n).map fun (u : Nat) => (u : Int)).Nodup := List.Pairwise.map _ (fun a b hab => by omega) (List.nodup_range (n := n))
    have h4 := List.nodup_iff_count.1 h3 x
    have h5 : x ∈ (List.range n).map fun (u : Nat) => (u : Int) := by rw [List.mem_map]; exact ⟨x.toNat, by simp; omega, by omega⟩
    have h6 := List.count_pos_iff.2 h5
    omega
  · rw [List.count_eq_zero_of_not_mem (fun hm => hx (h.1 x hm)), List.count_eq_zero_of_not_mem]
    rw [List.mem_map]
    rintro ⟨a, ha, rfl⟩
    simp at ha; omega
theorem PermN.len {L : List Int} {n : Nat} (h : PermN L n) : L.length = n := by
  have := h.perm.length_eq
  simpa using this

theorem post_perm {par : List Int} (hF : Fo par) (hn : par.length ≤ 20) : PermN (POk par (PO par FUEL) par.length (-1)) par.length :=
  ⟨fun x hx => POk_mem FUEL x _ _ (Nat.le_refl _) hx, fun u hu => post_count hF hn u hu⟩
end Pl
