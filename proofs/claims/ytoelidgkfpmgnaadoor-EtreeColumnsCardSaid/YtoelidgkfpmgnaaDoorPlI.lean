/- Perm and Invert; where each subtree lies in the postorder; the law of the subtrees. -/
import Derived.Test.YtoelidgkfpmgnaaDoorPlH
import Derived.KernelRfl
namespace Pl
open Sx Go M

theorem place_ok (x : Int) (m : Nat) (h0 : 0 < m) (h1 : m < 1000000) : ∃ z : Nat, sparsekit_Place x (m : Int) = some (z : Int) ∧ z < m := by
  have hx : 0 ≤ wc .u64 x ∧ wc .u64 x < 18446744073709551616 := by unfold wc; rw [IntKind.wrap_u64]; omega
  have hm : wc .u64 (m : Int) = (m : Int) := IntWalk.u64_in _ (by omega)
  have h2 : (wc .u64 x).tmod (m : Int) = (wc .u64 x) % (m : Int) := Int.tmod_eq_emod_of_nonneg hx.1
  have h3 := Int.emod_nonneg (wc .u64 x) (show (m : Int) ≠ 0 by omega)
  have h4 := Int.emod_lt_of_pos (wc .u64 x) (show (0 : Int) < m by omega)
  unfold sparsekit_Place wr
  rw [hm, if_neg (by omega), h2]
  refine ⟨((wc .u64 x) % (m : Int)).toNat, ?_, by omega⟩
  show some (wc .i64 _) = _
  have h5 : wc .i64 ((wc .u64 x) % (m : Int)) = (wc .u64 x) % (m : Int) := IntWalk.i64_in _ (by omega)
  rw [h5]; congr 1; omega

theorem place_r (x m : Int) (h0 : 0 < m) (h1 : m < 1000000) : ∃ z : Int, sparsekit_Place x m = some z ∧ 0 ≤ z ∧ z < m := by
  obtain ⟨z, h2, h3⟩ := place_ok x m.toNat (by omega) (by omega)
  rw [show ((m.toNat : Nat) : Int) = m by omega] at h2
  exact ⟨z, h2, by omega, by omega⟩

/-! ### Perm, Invert -/
theorem nodup_inj {L : List Int} (h : L.Nodup) {i j : Nat} {hi : i < L.length} {hj : j < L.length} (he : L[i] = L[j]) : i = j := by
  have h1 := List.pairwise_iff_getElem.1 h
  by_cases hij : i = j
  · exact hij
  · rcases Nat.lt_or_gt_of_ne hij with h2 | h2
    · exact absurd he (h1 i j hi hj h2)
    · exact absurd he.symm (h1 j i hj hi h2)
theorem nodup_take {L : List Int} (h : L.Nodup) {k : Nat} (hk : k < L.length) : L[k] ∉ L.take k := by
  intro hm
  rw [List.mem_iff_getElem] at hm
  obtain ⟨i, hi, he⟩ := hm
  rw [List.getElem_take] at he
  have := nodup_inj h he
  simp at hi
  omega

/-! ### the sizes are the lengths -/
theorem S_sum {par : List Int} (hF : Fo par) (p : Nat) : ∀ k, k ≤ par.length → S par k k p = (if p < k then 1 else 0) + sm (fun c => if par[c]? = some (p : Int) then S par (c + 1) (c + 1) c else 0) k := by
  intro k
  induction k with
  | zero => intro _; rfl
  | succ k ih =>
    intro hk
    have hg : par[k]? = some par[k] := by simp [show k < par.length by omega]
    have hA : A par k k p = if k = p then 1 else 0 := by
      rw [A_def hF (by omega)]
      split
      · rfl
      · rw [if_neg (by omega)]
    rw [S_step hF (by omega) p, ih (by omega), sm, hg, hA]
    simp only [Option.some.injEq]
    by_cases h1 : k = p
    · subst h1
      simp; omega
    · rw [if_neg h1]
      by_cases h2 : p < k
      · rw [if_pos h2, if_pos (show p < k + 1 by omega)]; omega
      · rw [if_neg h2, if_neg (show ¬ p < k + 1 by omega)]; omega
theorem sm_stop {g : Nat → Nat} {p : Nat} (h : ∀ v, p ≤ v → g v = 0) : ∀ d, sm g (p + d) = sm g p := by
  intro d
  induction d with
  | zero => rfl
  | succ d ih => show sm g (p + d) + g (p + d) = _; rw [ih, h (p + d) (by omega)]; rfl
theorem S_eq {par : List Int} (hF : Fo par) {p : Nat} (hp : p < par.length) : S par par.length par.length p = 1 + sm (fun c => if par[c]? = some (p : Int) then S par (c + 1) (c + 1) c else 0) p ∧
    S par (p + 1) (p + 1) p = S par par.length par.length p := by
  have hz : ∀ v, p ≤ v → (fun c => if par[c]? = some (p : Int) then S par (c + 1) (c + 1) c else 0) v = 0 := by
    intro v hv
    simp only
    rw [if_neg]
    intro h
    have := hF v (List.getElem?_eq_some_iff.1 h).1 _ h
    omega
  have h1 := sm_stop hz (par.length - p)
  have h2 := sm_stop hz 1
  rw [show p + (par.length - p) = par.length by omega] at h1
  rw [S_sum hF p par.length (Nat.le_refl _), S_sum hF p (p + 1) (by omega), if_pos hp, if_pos (by omega), h1, h2]
  exact ⟨rfl, rfl⟩
theorem POk_size {par : List Int} (g : Nat → List Int) : ∀ k t, (POk par g k t).length = sm (fun c => if par[c]? = some t then (g c).length else 0) k := by
  intro k
  induction k with
  | zero => intro t; rfl
  | succ k ih =>
    intro t
    rw [POk, sm, List.length_append, ih]
    split <;> simp
theorem PO_size {par : List Int} (hF : Fo par) : ∀ f p, p < f → p < par.length → (PO par f p).length = S par par.length par.length p := by
  intro f
  induction f with
  | zero => intro p h; omega
  | succ f ih =>
    intro p hf hp
    rw [PO, List.length_append, POk_size, (S_eq hF hp).1, Nat.add_comm]
    congr 1
    refine sm_congr p fun c hc => ?_
    split
    · rw [ih c (by omega) (by omega), (S_eq hF (by omega : c < par.length)).2]
    · rfl
theorem PO_stable {par : List Int} : ∀ f p, p < f → PO par (f + 1) p = PO par f p := by
  intro f
  induction f with
  | zero => intro p h; omega
  | succ f ih =>
    intro p hp
    rw [PO, PO]
    congr 1
    have : ∀ k t, k ≤ p → POk par (PO par (f + 1)) k t = POk par (PO par f) k t := by
      intro k
      induction k with
      | zero => intro t _; rfl
      | succ k ihk => intro t hk; rw [POk, POk, ihk t (by omega), ih k (by omega)]
    exact this p _ (Nat.le_refl _)

/-! ### where the subtrees lie -/
def At (par L : List Int) (v s : Nat) : Prop := ∃ X Y, L = X ++ PO par FUEL v ++ Y ∧ X.length = s
theorem POk_part {par : List Int} (g : Nat → List Int) {c : Nat} {t : Int} (hc : par[c]? = some t) : ∀ k, c < k → ∃ X Y, POk par g k t = X ++ g c ++ Y := by
  intro k
  induction k with
  | zero => intro h; omega
  | succ k ih =>
    intro h
    by_cases hck : c = k
    · subst hck
      exact ⟨POk par g c t, [], by rw [POk, if_pos hc, List.append_nil]⟩
    · obtain ⟨X, Y, h1⟩ := ih (by omega)
      exact ⟨X, Y ++ (if par[k]? = some t then g k else []), by rw [POk, h1, List.append_assoc]⟩
theorem fuel_succ : ∃ F, FUEL = F + 1 ∧ 1000000 < F := ⟨1099511627775, rfl, by omega⟩
theorem at_child {par L : List Int} (hF : Fo par) {c p s' : Nat} (hn : par.length ≤ 20) (hc : par[c]? = some (p : Int)) (h : At par L p s') : ∃ s, At par L c s ∧ s' ≤ s ∧ s + (PO par FUEL c).length < s' + (PO par FUEL p).length := by
  obtain ⟨X, Y, rfl, rfl⟩ := h
  obtain ⟨F, hFu, hbig⟩ := fuel_succ
  have hcl : c < par.length := (List.getElem?_eq_some_iff.1 hc).1
  have hcp := hF c hcl _ hc
  have hst : PO par F c = PO par FUEL c := by rw [hFu, PO_stable F c (by omega)]
  obtain ⟨X1, Y1, h1⟩ := POk_part (PO par F) hc p (by omega)
  have h2 : PO par FUEL p = X1 ++ PO par FUEL c ++ Y1 ++ [(p : Int)] := by
    conv => lhs; rw [hFu]
    rw [PO, h1, hst]
  refine ⟨(X ++ X1).length, ⟨X ++ X1, Y1 ++ [(p : Int)] ++ Y, ?_, rfl⟩, by simp, ?_⟩
  · rw [h2]; simp [List.append_assoc]
  · rw [h2]; simp; omega
theorem at_all {par : List Int} (hF : Fo par) (hn : par.length ≤ 20) : ∀ m v, m = par.length - v → v < par.length → ∃ s, At par (POk par (PO par FUEL) par.length (-1)) v s := by
  intro m
  induction m using Nat.strongRecOn with
  | _ m ih =>
    intro v hm hv
    have hg : par[v]? = some par[v] := by simp [hv]
    rcases hF v hv _ hg with h0 | h0
    · rw [h0] at hg
      obtain ⟨X, Y, h⟩ := POk_part (PO par FUEL) hg par.length hv
      exact ⟨X.length, X, Y, h, rfl⟩
    · obtain ⟨s', h1⟩ := ih (par.length - par[v].toNat) (by omega) par[v].toNat rfl (by omega)
      obtain ⟨s, h2, _⟩ := at_child hF hn (by rw [hg]; congr 1; omega) h1
      exact ⟨s, h2⟩
theorem at_pos {par L : List Int} {v s : Nat} (h : At par L v s) : 0 < (PO par FUEL v).length ∧ L[s + (PO par FUEL v).length - 1]? = some (v : Int) := by
  obtain ⟨X, Y, rfl, rfl⟩ := h
  obtain ⟨F, hFu, _⟩ := fuel_succ
  have h2 : PO par FUEL v = POk par (PO par F) v (v : Int) ++ [(v : Int)] := by
    conv => lhs; rw [hFu]
    rw [PO]
  rw [h2]
  refine ⟨by simp, ?_⟩
  rw [List.append_assoc, List.getElem?_append_right (by simp)]
  rw [List.getElem?_append_left (by simp)]
  rw [List.getElem?_append_right (by simp)]
  simp
end Pl
