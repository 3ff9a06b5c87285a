/- Primes, by trial division; Fermat's theorem. -/
import Derived.Test.YtnfamnfdndaekaaGreatDoorVcA
namespace Nt
set_option linter.unusedVariables false
set_option linter.unusedSimpArgs false

structure Prm (p : Nat) : Prop where
  two : 2 ≤ p
  div : ∀ d, d ∣ p → d = 1 ∨ d = p
theorem Prm.of {p : Nat} (h2 : 2 ≤ p) (h : ∀ d, 2 ≤ d → d * d ≤ p → ¬ d ∣ p) : Prm p := by
  refine ⟨h2, fun d hd => Classical.byContradiction fun hno => ?_⟩
  obtain ⟨e, he⟩ := hd
  have hd0 : d ≠ 0 := by rintro rfl; simp at he; omega
  have he0 : e ≠ 0 := by rintro rfl; simp at he; omega
  have he1 : e ≠ 1 := by rintro rfl; simp at he; omega
  by_cases hle : d ≤ e
  · exact h d (by omega) (by rw [he]; exact Nat.mul_le_mul_left d hle) ⟨e, he⟩
  · exact h e (by omega) (by rw [he]; exact Nat.mul_le_mul_right e (by omega)) ⟨d, by rw [he, Nat.mul_comm]⟩
theorem Prm.cop {p a : Nat} (h : Prm p) (ha : ¬ p ∣ a) : Nat.Coprime p a := by
  rcases h.div _ (Nat.gcd_dvd_left p a) with h1 | h1
  · exact h1
  · exact absurd (h1 ▸ Nat.gcd_dvd_right p a) ha
theorem Prm.euclid {p a b : Nat} (h : Prm p) (hab : p ∣ a * b) : p ∣ a ∨ p ∣ b := by
  by_cases ha : p ∣ a
  · exact .inl ha
  · exact .inr ((h.cop ha).dvd_of_dvd_mul_left hab)
def prod : List Nat → Nat
  | [] => 1
  | x :: l => x * prod l
theorem prod_perm {l m : List Nat} (h : l.Perm m) : prod l = prod m := by
  induction h with
  | nil => rfl
  | cons x _ ih => simp only [prod, ih]
  | swap x y l => simp only [prod]; rw [← Nat.mul_assoc, ← Nat.mul_assoc, Nat.mul_comm y x]
  | trans _ _ h1 h2 => rw [h1, h2]
theorem prod_map {a p : Nat} : ∀ l : List Nat, prod (l.map fun k => a * k % p) % p = a ^ l.length * prod l % p
  | [] => by simp [prod]
  | x :: l => by
    have ih := prod_map (a := a) (p := p) l
    simp only [List.map_cons, prod, List.length_cons]
    have e : a ^ (l.length + 1) * (x * prod l) = a * x * (a ^ l.length * prod l) := by
      rw [Nat.pow_succ]
      simp only [Nat.mul_assoc, Nat.mul_comm, Nat.mul_left_comm]
    rw [e, Nat.mul_mod, Nat.mod_mod, ih, ← Nat.mul_mod]
theorem prm_prod {p : Nat} (h : Prm p) : ∀ l : List Nat, (∀ x, x ∈ l → 0 < x ∧ x < p) → ¬ p ∣ prod l
  | [], _ => by
    intro hd
    have := Nat.le_of_dvd (by simp [prod]) hd
    have := h.two
    simp only [prod] at *
    omega
  | x :: l, hl => by
    intro hd
    rcases h.euclid hd with h1 | h1
    · have := Nat.le_of_dvd (hl x (by simp)).1 h1
      have := (hl x (by simp)).2
      omega
    · exact prm_prod h l (fun y hy => hl y (by simp [hy])) h1
theorem perm_of {l m : List Nat} (hl : l.Nodup) (hs : ∀ x, x ∈ l → x ∈ m) (hm : m.Nodup) (he : m.length ≤ l.length) : l.Perm m := by
  induction l generalizing m with
  | nil =>
    have : m = [] := List.eq_nil_of_length_eq_zero (by simpa using he)
    rw [this]
  | cons x l ih =>
    rw [List.nodup_cons] at hl
    have hx := hs x (by simp)
    have hp := List.perm_cons_erase hx
    refine .trans ?_ hp.symm
    refine .cons x (ih hl.2 (fun y hy => ?_) (hm.erase x) ?_)
    · exact (List.mem_erase_of_ne (by rintro rfl; exact hl.1 hy)).2 (hs y (by simp [hy]))
    · rw [List.length_erase_of_mem hx]
      simp only [List.length_cons] at he
      omega
theorem dvd_of_mod {x y p : Nat} (h : x % p = y % p) : p ∣ y - x := Nat.dvd_of_mod_eq_zero (Nat.sub_mod_eq_zero_of_mod_eq h.symm)
theorem mod_of_dvd {x y p : Nat} (hle : x ≤ y) (h : p ∣ y - x) : x % p = y % p := by
  obtain ⟨k, hk⟩ := h
  have : y = x + p * k := by omega
  rw [this, Nat.add_mul_mod_self_left]
/-- Fermat's little theorem -/
theorem Prm.fermat {p a : Nat} (h : Prm p) (ha : ¬ p ∣ a) : a ^ (p - 1) % p = 1 := by
  have h2 := h.two
  let L := (List.range (p - 1)).map (· + 1)
  have hmem : ∀ x, x ∈ L ↔ 0 < x ∧ x < p := by
    intro x
    simp only [L, List.mem_map, List.mem_range]
    constructor
    · rintro ⟨y, hy, rfl⟩; omega
    · rintro ⟨h1, h3⟩; exact ⟨x - 1, by omega, by omega⟩
  have hL : L.Nodup := by
    rw [List.nodup_iff_pairwise_ne, List.pairwise_map]
    exact (List.nodup_iff_pairwise_ne.1 List.nodup_range).imp fun h e => h (by omega)
  have hlen : L.length = p - 1 := by simp [L]
  have hinj : ∀ x y, x < p → y < p → a * x % p = a * y % p → x ≤ y → x = y := by
    intro x y hx hy he hle
    have h1 : p ∣ a * (y - x) := by
      rw [Nat.mul_sub]
      exact dvd_of_mod he
    rcases h.euclid h1 with h3 | h3
    · exact absurd h3 ha
    · refine Classical.byContradiction fun hne => ?_
      have := Nat.le_of_dvd (by omega) h3
      omega
  have hp : (L.map fun k => a * k % p).Perm L := by
    refine perm_of ?_ (fun x hx => ?_) hL (by simp)
    · rw [List.nodup_iff_pairwise_ne, List.pairwise_map]
      have h3 : L.Pairwise fun x y => x ∈ L ∧ y ∈ L := List.Pairwise.and_mem.1 (List.pairwise_of_forall (l := L) (R := fun _ _ => True) (fun _ _ => trivial)) |>.imp fun h => ⟨h.1, h.2.1⟩
      refine ((List.nodup_iff_pairwise_ne.1 hL).and h3).imp ?_
      rintro x y ⟨hne, hx, hy⟩ he
      have hx := (hmem x).1 hx
      have hy := (hmem y).1 hy
      rcases Nat.le_total x y with hle | hle
      · exact hne (hinj x y hx.2 hy.2 he hle)
      · exact hne (hinj y x hy.2 hx.2 he.symm hle).symm
    · obtain ⟨k, hk, rfl⟩ := List.mem_map.1 hx
      have hk := (hmem k).1 hk
      refine (hmem _).2 ⟨Nat.pos_of_ne_zero fun h0 => ?_, Nat.mod_lt _ (by omega)⟩
      rcases h.euclid (Nat.dvd_of_mod_eq_zero h0) with h3 | h3
      · exact ha h3
      · have := Nat.le_of_dvd hk.1 h3; omega
  have h3 := prod_map (a := a) (p := p) L
  rw [prod_perm hp, hlen] at h3
  have hnd := prm_prod h L (fun x hx => (hmem x).1 hx)
  -- prod L (a^(p-1) - 1) is divisible
  have hpos : 1 ≤ a ^ (p - 1) := Nat.pos_of_ne_zero fun h0 => by
    have : a ≠ 0 := by rintro rfl; exact ha (Nat.dvd_zero p)
    exact absurd h0 (Nat.pos_iff_ne_zero.1 (Nat.pow_pos (by omega)))
  have h4 : p ∣ a ^ (p - 1) * prod L - 1 * prod L := dvd_of_mod (by rw [Nat.one_mul]; exact h3)
  rw [← Nat.sub_mul] at h4
  have h5 := (h.euclid h4).resolve_right hnd
  have h6 : 1 % p = a ^ (p - 1) % p := mod_of_dvd hpos h5
  rw [← h6]
  exact Nat.mod_eq_of_lt (by omega)
end Nt
