/- Powers and inverses modulo a prime. -/
import Derived.Test.YtnfamnfdndaekaaGreatDoorQbC
namespace Nt
set_option linter.unusedVariables false

theorem pow_half (a n : Nat) : a ^ n = a ^ (n % 2) * (a * a) ^ (n / 2) := by
  have h : n = n % 2 + 2 * (n / 2) := by omega
  conv => lhs; rw [h]
  rw [Nat.pow_add, Nat.pow_mul, Nat.pow_two]
/-- a step of the binary power: an odd exponent, an even one -/
theorem pow_odd {out a n p : Nat} (h : n % 2 = 1) : (out * a % p) * (a * a % p) ^ (n / 2) % p = out * a ^ n % p := by
  rw [pow_half a n, h, Nat.pow_one, ← Nat.mul_assoc]
  rw [Nat.mul_mod, Nat.mod_mod, ← Nat.pow_mod, ← Nat.mul_mod]
theorem pow_even {out a n p : Nat} (h : n % 2 = 0) : out * (a * a % p) ^ (n / 2) % p = out * a ^ n % p := by
  rw [pow_half a n, h, Nat.pow_zero, Nat.one_mul]
  rw [Nat.mul_mod, ← Nat.pow_mod, ← Nat.mul_mod]
theorem inv_ok {p a : Nat} (hp : Prm p) (h0 : 0 < a) (h1 : a < p) : a * (a ^ (p - 2) % p) % p = 1 := by
  have h2 := hp.two
  have hn : ¬ p ∣ a := fun hd => by have := Nat.le_of_dvd h0 hd; omega
  have hf := hp.fermat hn
  rw [Nat.mul_mod, Nat.mod_mod, ← Nat.mul_mod]
  have e : a * a ^ (p - 2) = a ^ (p - 1) := by
    rw [show p - 1 = (p - 2) + 1 by omega, Nat.pow_succ, Nat.mul_comm]
  rw [e, hf]
/-- the inverse is one number only -/
theorem inv_uniq {p a x y : Nat} (hx : x < p) (hy : y < p) (h1 : a * x % p = 1 % p) (h2 : a * y % p = 1 % p) : x = y := by
  have e1 : (x * (a * y)) % p = x % p := by
    rw [Nat.mul_mod, h2, ← Nat.mul_mod, Nat.mul_one]
  have e2 : (y * (a * x)) % p = y % p := by
    rw [Nat.mul_mod, h1, ← Nat.mul_mod, Nat.mul_one]
  have e3 : x * (a * y) = y * (a * x) := by rw [Nat.mul_left_comm, Nat.mul_left_comm y a x, Nat.mul_comm x y]
  rw [e3, e2] at e1
  rw [Nat.mod_eq_of_lt hx, Nat.mod_eq_of_lt hy] at e1
  exact e1.symm
end Nt
