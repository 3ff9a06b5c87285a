/- The program's primes are the paper's: both search alike. -/
import Derived.KernelRfl
import Derived.Test.YtnfamnfdndaekaaGreatDoorM4
import Derived.Test.YtnfamnfdndaekaaGreatDoorVcA
import Derived.Test.YtnfamnfdndaekaaGreatDoorSxR
namespace Km
open Sx Go M Vc
set_option linter.unusedVariables false
set_option linter.unusedSimpArgs false
set_option maxHeartbeats 4000000
/-- a loop that comes to an end -/
theorem ret_loopM {τ ρ : Type} {step : τ → Option (τ ⊕ ρ)} {Post : ρ → Prop} (I : τ → Prop) (μ : τ → Nat) {s : τ} (h0 : I s) (hμ : μ s < 1099511627776)
    (h : ∀ t, I t → Ret (step t) (VQ (fun t' => I t' ∧ μ t' < μ t) Post)) : Ret (loop step s) Post := by
  have key : ∀ (fuel : Nat) (t : τ), μ t < fuel → I t → Ret (loopN step fuel t) Post := by
    intro fuel
    induction fuel with
    | zero => intro t h1; omega
    | succ n ih =>
      intro t h1 h2
      obtain ⟨x, hx, h3⟩ := h t h2
      cases x with
      | inr r => exact ⟨r, by simp [loopN, hx], h3⟩
      | inl t' =>
        obtain ⟨h4, h5⟩ := h3
        obtain ⟨y, hy, hp⟩ := ih t' (by omega) h4
        exact ⟨y, by simp [loopN, hx, hy], hp⟩
  exact key FUEL s hμ h0
theorem awake07 : sparselaw07_awake = some true := by kernel_rfl
theorem prime_same : sparseref07_IsPrime = modular_IsPrime := rfl
theorem sq_le {i : Int} (h2 : 2 ≤ i) (h3 : i ≤ 46342) : 0 ≤ i * i ∧ i * i ≤ 46342 * 46342 := ⟨Int.mul_nonneg (by omega) (by omega), Int.mul_le_mul h3 h3 (by omega) (by omega)⟩
theorem prime_ret (x : Int) : Ret (modular_IsPrime x) (fun _ => True) := by
  unfold modular_IsPrime
  rw [ret_if]
  refine ⟨fun _ => ?_, fun hx => ?_⟩
  · exact ⟨_, rfl, trivial⟩
  · have hx : x ≤ 2147483647 := by
      simp only [Bool.or_eq_true, decide_eq_true_eq, not_or] at hx; omega
    rw [ret_bind]
    refine (ret_loopM (Post := fun _ => True) (fun i => 2 ≤ i ∧ i ≤ 46342) (fun i => (46342 - i).toNat) (by decide) (by decide) ?_).mono ?_
    · rintro i ⟨h2, h3⟩
      obtain ⟨h4, h5⟩ := sq_le h2 h3
      unfold modular_IsPrime_l2
      rw [wm_i (by omega) (by omega)]
      split
      · rename_i hle
        have h6 : i ≤ 46341 := by
          refine Classical.byContradiction fun hc => ?_
          obtain rfl : i = 46342 := by omega
          omega
        rw [ret_bind, ret_wr]
        refine ⟨by omega, ?_⟩
        split
        · exact ⟨_, rfl, trivial⟩
        · refine ⟨_, rfl, ?_⟩
          rw [wa_i (by omega) (by omega)]
          exact ⟨⟨by omega, by omega⟩, by show (46342 - (i + 1)).toNat < (46342 - i).toNat; omega⟩
      · exact ⟨_, rfl, trivial⟩
    · rintro (_ | _) _
      · exact ⟨_, rfl, trivial⟩
      · exact ⟨_, rfl, trivial⟩
theorem primes_step (n : Int) : sparseref07_Primes_l5 n = modular_Primes_l5 n := by
  funext ⟨l, i⟩
  have h : decide ((1 : Int) < i) = decide ((2 : Int) ≤ i) := decide_eq_decide.2 (by omega)
  show (if ((decide ((1 : Int) < i)) && (decide ((l.length : Int) < (imin n 100)))) = true then _ else _) = _
  rw [h]
  rfl
theorem imin_le {x y : Int} : imin x y ≤ y := by unfold imin; split <;> omega
theorem primes_ret (x n : Int) : Ret (loop (modular_Primes_l5 n) ([], imin x 2147483647)) (fun l => l.length ≤ 100) := by
  refine (ret_loopM (Post := fun (l : List Int) => l.length ≤ 100) (fun (s : List Int × Int) => s.1.length ≤ 100 ∧ s.2 ≤ 2147483647) (fun s => s.2.toNat) ⟨Nat.zero_le _, imin_le⟩ ?_ ?_)
  · have := @imin_le x 2147483647
    show (imin x 2147483647).toNat < _
    omega
  · rintro ⟨l, i⟩ ⟨h1, h2⟩
    simp only at h1 h2
    unfold modular_Primes_l5
    simp only
    rw [ret_if]
    refine ⟨fun hc => ?_, fun _ => ⟨_, rfl, h1⟩⟩
    simp only [Bool.and_eq_true, decide_eq_true_eq] at hc
    obtain ⟨hc1, hc2⟩ := hc
    have := @imin_le n 100
    rw [ret_bind]
    refine (prime_ret i).mono fun b _ => ?_
    rw [ret_if]
    refine ⟨fun _ => ?_, fun _ => ?_⟩
    · rw [ret_bind]
      refine ⟨l ++ [i], ?_, ?_⟩
      · unfold app BIG
        rw [if_pos]
        simp only [List.length_cons, List.length_nil]
        omega
      · unfold modular_Primes_j7
        refine ⟨_, rfl, ?_⟩
        show ((l ++ [i]).length ≤ 100 ∧ ws .i64 i 1 ≤ 2147483647) ∧ (ws .i64 i 1).toNat < i.toNat
        rw [ws_i (by omega) (by omega)]
        simp only [List.length_append, List.length_cons, List.length_nil]
        omega
    · unfold modular_Primes_j7
      refine ⟨_, rfl, ?_⟩
      show (l.length ≤ 100 ∧ ws .i64 i 1 ≤ 2147483647) ∧ (ws .i64 i 1).toNat < i.toNat
      rw [ws_i (by omega) (by omega)]
      omega
theorem start_same {x : Int} (h : 2 < x) (h2 : x ≤ 9223372036854775807) : ws .i64 (imin x 2147483648) 1 = imin (ws .i64 x 1) 2147483647 := by
  rw [ws_i (x := x) (by omega) (by omega)]
  unfold imin
  split <;> split <;> first | omega | (rw [ws_i (by omega) (by omega)]; done) | (rw [ws_i (by omega) (by omega)]; omega)
theorem primes_same {x : Int} (n : Int) (h2 : x ≤ 9223372036854775807) : sparseref07_Primes x n = modular_Primes x n := by
  unfold sparseref07_Primes modular_Primes
  split
  · rfl
  · rw [primes_step, start_same (by omega) h2]
theorem primes_all (x n : Int) : Ret (modular_Primes x n) (fun l => l.length ≤ 100) := by
  unfold modular_Primes
  rw [ret_if]
  refine ⟨fun _ => ⟨_, rfl, Nat.zero_le _⟩, fun _ => ?_⟩
  rw [ret_bind]
  exact (primes_ret _ n).mono fun l hl => ⟨_, rfl, hl⟩
theorem ints_self {l : List Int} (hl : l.length ≤ 1000) : sparsekit_Ints l l = some true := by
  refine Ret.eq ?_
  unfold sparsekit_Ints
  rw [ret_if]
  refine ⟨fun _ => ?_, fun h => absurd rfl h⟩
  rw [ret_bind]
  refine (ret_loop (Post := fun o => o = .inl ()) l.length (fun k i => i = (k : Int)) rfl ?_ (by omega)).mono ?_
  · rintro k i hk rfl
    unfold sparsekit_Ints_l1
    rw [ret_if]
    refine ⟨fun hlt => ?_, fun _ => ⟨_, rfl, rfl⟩⟩
    rw [ret_bind, ret_get]
    refine ⟨by omega, hlt, fun x hx => ?_⟩
    rw [ret_bind, ret_get]
    refine ⟨by omega, hlt, fun y hy => ?_⟩
    obtain rfl := Option.some.inj (hx.symm.trans hy)
    rw [if_pos rfl]
    refine ⟨_, rfl, ?_⟩
    rw [wa_i (by omega) (by omega)]
    exact ⟨by omega, by simp⟩
  · rintro _ rfl
    exact ⟨_, rfl, rfl⟩
theorem wf64 {n : Int} (h : Wf .i64 n) : n ≤ 9223372036854775807 := by
  simp only [Wf, Lit.wf, Bool.and_eq_true, decide_eq_true_eq] at h
  have e : IntKind.max .i64 = 9223372036854775807 := by decide
  omega
theorem primes_j (x1 x2 n : Int) (h2 : x2 ≤ 9223372036854775807) : sparselaw07_ModularPrimes_j8 x1 x2 n = some true := by
  obtain ⟨b, hb, _⟩ := prime_ret x1
  obtain ⟨l, hl, h100⟩ := primes_all x2 n
  unfold sparselaw07_ModularPrimes_j8
  rw [prime_same, primes_same n h2, hb, hl]
  simp only [Option.bind_eq_bind, obs, beq_self_eq_true, if_true]
  rw [ints_self (by omega), awake07]
  rfl
theorem modularPrimes_true (x1 x2 x3 : Int) (_ : Wf .i64 x1) (h2 : Wf .i64 x2) (_ : Wf .i64 x3) : sparselaw07_ModularPrimes x1 x2 x3 = some true := by
  have h := wf64 h2
  unfold sparselaw07_ModularPrimes sparselaw07_modulus
  rw [obs]
  split
  · rw [awake07]; rfl
  · split
    · exact primes_j x1 x2 2 h
    · exact primes_j x1 x2 x3 h
end Km
