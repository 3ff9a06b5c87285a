/- What the laws on determinants and solutions begin with: a prime, a square table. -/
import Derived.Test.YtnfamnfdndaekaaGreatDoorQgD
namespace Km
open Sx Go M Vc Dt
set_option linter.unusedVariables false
set_option linter.unusedSimpArgs false
set_option maxHeartbeats 4000000
theorem awake07 : sparselaw07_awake = some true := by kernel_rfl
theorem placeN (x : Int) (m : Nat) (h0 : 0 < m) (h1 : m < 1000000) : ∃ z : Nat, sparsekit_Place x (m : Int) = some (z : Int) ∧ z < m := by
  have hx : 0 ≤ wc .u64 x ∧ wc .u64 x < 18446744073709551616 := by unfold wc; rw [IntKind.wrap_u64]; omega
  have hm : wc .u64 (m : Int) = (m : Int) := IntWalk.u64_in _ (by omega)
  have h2 : (wc .u64 x).tmod (m : Int) = (wc .u64 x) % (m : Int) := Int.tmod_eq_emod_of_nonneg hx.1
  have h3 := Int.emod_nonneg (wc .u64 x) (show (m : Int) ≠ 0 by omega)
  have h4 := Int.emod_lt_of_pos (wc .u64 x) (show (0 : Int) < m by omega)
  unfold sparsekit_Place wr
  rw [hm, if_neg (by omega), h2]
  refine ⟨((wc .u64 x) % (m : Int)).toNat, ?_, by omega⟩
  show some (wc .i64 _) = _
  have h5 : wc .i64 ((wc .u64 x) % (m : Int)) = (wc .u64 x) % (m : Int) := IntWalk.i64_in _ (by omega)
  rw [h5]; congr 1; omega
theorem prm_small {p : Nat} (h2 : 2 ≤ p) (h : (List.range p).all (fun d => decide (d < 2) || decide (p % d ≠ 0)) = true) : Nt.Prm p := by
  refine Nt.Prm.of h2 fun d h3 h4 h5 => ?_
  have hd : d < p := by
    have : d * 2 ≤ d * d := Nat.mul_le_mul_left d h3
    omega
  have := List.all_eq_true.1 h d (List.mem_range.2 hd)
  simp only [Bool.or_eq_true, decide_eq_true_eq] at this
  rcases this with h6 | h6
  · omega
  · exact h6 (Nat.mod_eq_zero_of_dvd h5)
theorem prime_in (x : Int) : ∃ p, sparselaw07_prime x = some p ∧ PP p := by
  obtain ⟨z, h1, h2⟩ := placeN x 10 (by omega) (by omega)
  unfold sparselaw07_prime
  rw [show (10 : Int) = ((10 : Nat) : Int) from rfl, h1, obs]
  have hz : z = 0 ∨ z = 1 ∨ z = 2 ∨ z = 3 ∨ z = 4 ∨ z = 5 ∨ z = 6 ∨ z = 7 ∨ z = 8 ∨ z = 9 := by omega
  rcases hz with rfl | rfl | rfl | rfl | rfl | rfl | rfl | rfl | rfl | rfl
  · exact ⟨2, rfl, by omega, by omega, prm_small (by decide) (by decide)⟩
  · exact ⟨3, rfl, by omega, by omega, prm_small (by decide) (by decide)⟩
  · exact ⟨5, rfl, by omega, by omega, prm_small (by decide) (by decide)⟩
  · exact ⟨7, rfl, by omega, by omega, prm_small (by decide) (by decide)⟩
  · exact ⟨11, rfl, by omega, by omega, prm_small (by decide) (by decide)⟩
  · exact ⟨13, rfl, by omega, by omega, prm_small (by decide) (by decide)⟩
  · exact ⟨101, rfl, by omega, by omega, Nt.prm_101⟩
  · exact ⟨65537, rfl, by omega, by omega, Nt.prm_fer⟩
  · exact ⟨1000003, rfl, by omega, by omega, Nt.prm_mil⟩
  · exact ⟨2147483647, rfl, by omega, by omega, Nt.prm_max⟩
theorem square_tb {l : List Int} (n : Nat) (hn : n ≤ 5) (hl : l.length ≤ 25) : Ret (sparselaw07_square l (n : Int)) (fun T => Tb T n n (fun r c => l.getD (n * r + c) 0)) := by
  unfold sparselaw07_square
  rw [ret_bind]
  refine (ret_loop (Post := fun T => Tb T n n (fun r c => l.getD (n * r + c) 0)) n (fun k (s : List (List Int) × Int) => s.2 = (k : Int) ∧ Tb s.1 k n (fun r c => l.getD (n * r + c) 0)) ⟨rfl, rfl, fun r h => absurd h (by omega)⟩ ?_ (by omega)).mono fun T h => ⟨_, rfl, h⟩
  rintro k ⟨T, _⟩ hk ⟨rfl, h⟩
  unfold sparselaw07_square_l9
  simp only at h ⊢
  rw [ret_if]
  refine ⟨fun hlt => ?_, fun _ => ⟨_, rfl, by show Tb T n n _; have e : k = n := (by omega); exact e ▸ h⟩⟩
  have hkn : k < n := by omega
  rw [ret_bind]
  refine (ret_loop (Post := fun o => Ln o n (fun c => l.getD (n * k + c) 0)) n (fun j (s : List Int × Int) => s.2 = (j : Int) ∧ Ln s.1 j (fun c => l.getD (n * k + c) 0)) ⟨rfl, rfl, fun c h => absurd h (by omega)⟩ ?_ (by omega)).mono fun o ho => ?_
  · rintro j ⟨o, _⟩ hj ⟨rfl, ho⟩
    unfold sparselaw07_square_l12 sparselaw07_square_j13
    simp only at ho ⊢
    rw [ret_if]
    refine ⟨fun hlt => ?_, fun _ => ⟨_, rfl, by show Ln o n _; have e : j = n := (by omega); exact e ▸ ho⟩⟩
    have hjn : j < n := by omega
    have hnk : n * k ≤ 5 * 5 := Nat.mul_le_mul hn (by omega)
    have e1 : wa .i64 (wm .i64 (n : Int) (k : Int)) (j : Int) = ((n * k + j : Nat) : Int) := by
      have e2 : (n : Int) * (k : Int) = ((n * k : Nat) : Int) := by simp
      rw [wm_i (by rw [e2]; omega) (by rw [e2]; omega), e2, wa_i (by omega) (by omega)]; omega
    have push : ∀ x, x = l.getD (n * k + j) 0 → Ret ((app o [x]).bind fun x117 => some (Sum.inl (β := List Int) (x117, wa .i64 (j : Int) 1))) (VQ (fun t' : List Int × Int => j < n ∧ t'.2 = ((j + 1 : Nat) : Int) ∧ Ln t'.1 (j + 1) (fun c => l.getD (n * k + c) 0)) (fun o => Ln o n (fun c => l.getD (n * k + c) 0))) := by
      rintro x rfl
      rw [ret_bind, ret_app]
      refine ⟨by rw [ho.1]; simp only [List.length_cons, List.length_nil]; omega, _, rfl, hjn, by show wa .i64 (j : Int) 1 = _; rw [wa_i (by omega) (by omega)]; rfl, by show (o ++ [_]).length = j + 1; rw [List.length_append, ho.1]; rfl, fun c hc => ?_⟩
      show (o ++ [_])[c]? = _
      by_cases e : c = j
      · subst e; rw [List.getElem?_append_right (by rw [ho.1]; omega), ho.1, Nat.sub_self]; rfl
      · rw [List.getElem?_append_left (by rw [ho.1]; omega), ho.2 c (by omega)]
    rw [e1, ret_if]
    refine ⟨fun hin => ?_, fun hout => ?_⟩
    · rw [ret_bind, ret_get]
      refine ⟨by omega, hin, fun x hx => push x ?_⟩
      rw [Int.toNat_natCast] at hx
      rw [List.getD_eq_getElem?_getD, hx]; rfl
    · refine push 0 ?_
      rw [List.getD_eq_getElem?_getD, List.getElem?_eq_none (by omega)]; rfl
  · rw [ret_bind, ret_app]
    refine ⟨by rw [h.1]; simp only [List.length_cons, List.length_nil]; omega, _, rfl, by omega, by show wa .i64 (k : Int) 1 = _; rw [wa_i (by omega) (by omega)]; rfl, by show (T ++ [_]).length = k + 1; rw [List.length_append, h.1]; rfl, fun r hr => ?_⟩
    show ∃ l', (T ++ [o])[r]? = some l' ∧ _
    by_cases e : r = k
    · subst e; exact ⟨o, by rw [List.getElem?_append_right (by rw [h.1]; omega), h.1, Nat.sub_self]; rfl, ho⟩
    · obtain ⟨l', h1, h2⟩ := h.2 r (by omega)
      exact ⟨l', by rw [List.getElem?_append_left (by rw [h.1]; omega)]; exact h1, h2⟩
end Km
