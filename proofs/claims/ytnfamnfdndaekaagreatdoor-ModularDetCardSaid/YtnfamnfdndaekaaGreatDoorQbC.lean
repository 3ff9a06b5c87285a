/- The moduli of the statements are primes. -/
import Derived.Test.YtnfamnfdndaekaaGreatDoorQbB
import Derived.KernelRfl
namespace Nt
set_option linter.unusedVariables false

/-- no divisor from d on, for n numbers -/
def nodiv (p : Nat) : Nat → Nat → Bool
  | 0, _ => true
  | n + 1, d => !(Nat.beq (p % d) 0) && nodiv p n (d + 1)
theorem nodiv_ok {p : Nat} : ∀ (n d : Nat), nodiv p n d = true → ∀ e, d ≤ e → e < d + n → ¬ e ∣ p
  | 0, d, _, e, h1, h2 => by omega
  | n + 1, d, h, e, h1, h2 => by
    simp only [nodiv, Bool.and_eq_true, Bool.not_eq_true'] at h
    by_cases hed : e = d
    · subst hed
      intro hd
      have h3 := Nat.mod_eq_zero_of_dvd hd
      have h4 := h.1
      rw [h3] at h4
      cases h4
    · exact nodiv_ok n (d + 1) h.2 e (by omega) (by omega)
theorem Prm.by_nodiv {p n : Nat} (h2 : 2 ≤ p) (h : nodiv p n 2 = true) (hn : p < (n + 2) * (n + 2)) : Prm p := by
  refine Prm.of h2 fun d hd hdd => nodiv_ok n 2 h d hd ?_
  refine Classical.byContradiction fun hno => ?_
  have : (n + 2) * (n + 2) ≤ d * d := Nat.mul_le_mul (by omega) (by omega)
  omega
theorem nodiv_max : nodiv 2147483647 46340 2 = true := by kernel_rfl
theorem prm_max : Prm 2147483647 := Prm.by_nodiv (by omega) nodiv_max (by omega)
theorem nodiv_mil : nodiv 1000003 1000 2 = true := by kernel_rfl
theorem prm_mil : Prm 1000003 := Prm.by_nodiv (by omega) nodiv_mil (by omega)
theorem nodiv_fer : nodiv 65537 256 2 = true := by kernel_rfl
theorem prm_fer : Prm 65537 := Prm.by_nodiv (by omega) nodiv_fer (by omega)
theorem nodiv_101 : nodiv 101 10 2 = true := by kernel_rfl
theorem prm_101 : Prm 101 := Prm.by_nodiv (by omega) nodiv_101 (by omega)
end Nt
