/- Remainders, powers, inverses, rows and tables: what the program's small loops compute. -/
import Derived.Test.YtnfamnfdndaekaaGreatDoorM4
import Derived.Test.YtnfamnfdndaekaaGreatDoorVcA
import Derived.Test.YtnfamnfdndaekaaGreatDoorQbD
import Derived.Test.YtnfamnfdndaekaaGreatDoorQeB
namespace Km
open Sx Go M Vc Dt
set_option linter.unusedVariables false
set_option linter.unusedSimpArgs false
set_option maxHeartbeats 4000000
/-- a loop that comes to an end -/
theorem ret_loopM {τ ρ : Type} {step : τ → Option (τ ⊕ ρ)} {Post : ρ → Prop} (I : τ → Prop) (μ : τ → Nat) {s : τ} (h0 : I s) (hμ : μ s < 1099511627776)
    (h : ∀ t, I t → Ret (step t) (VQ (fun t' => I t' ∧ μ t' < μ t) Post)) : Ret (loop step s) Post := by
  have key : ∀ (fuel : Nat) (t : τ), μ t < fuel → I t → Ret (loopN step fuel t) Post := by
    intro fuel
    induction fuel with
    | zero => intro t h1; omega
    | succ n ih =>
      intro t h1 h2
      obtain ⟨x, hx, h3⟩ := h t h2
      cases x with
      | inr r => exact ⟨r, by simp [loopN, hx], h3⟩
      | inl t' =>
        obtain ⟨h4, h5⟩ := h3
        obtain ⟨y, hy, hp⟩ := ih t' (by omega) h4
        exact ⟨y, by simp [loopN, hx, hy], hp⟩
  exact key FUEL s hμ h0
/-- a modulus -/
structure PP (p : Int) : Prop where
  two : 2 ≤ p
  max : p ≤ 2147483647
  prm : Nt.Prm p.toNat
theorem tmod_nn {x p : Int} (h : 0 ≤ x) : x.tmod p = x % p := Int.tmod_eq_emod_of_nonneg h
theorem wr_nn {x p : Int} (h : 0 ≤ x) (hp : 0 < p) : wr x p = some (x % p) := by
  unfold wr; rw [if_neg (by omega), tmod_nn h]
theorem mod_rng {p : Int} (x : Int) (hp : 0 < p) : 0 ≤ x % p ∧ x % p < p := ⟨Int.emod_nonneg _ (by omega), Int.emod_lt_of_pos _ hp⟩
theorem emod_of {a p z k : Int} (h : a = z + p * k) (h0 : 0 ≤ z) (h1 : z < p) : z = a % p := by rw [h, Int.add_mul_emod_self_left, Int.emod_eq_of_lt h0 h1]
theorem mod_ok {a p : Int} (hp : 0 < p) (hm : p ≤ 2147483647) : modular_mod a p = some (a % p) := by
  unfold modular_mod wr modular_mod_j1
  rw [if_neg (by omega), obs]
  have h1 := Int.lt_tmod_of_pos a hp
  have h2 := Int.tmod_lt_of_pos a hp
  have h3 := Int.mul_tdiv_add_tmod a p
  split
  · rw [wa_i (by omega) (by omega)]
    refine congrArg some (emod_of (k := a.tdiv p - 1) ?_ (by omega) (by omega))
    rw [Int.mul_sub]; omega
  · exact congrArg some (emod_of (k := a.tdiv p) (by omega) (by omega) h2)
theorem ref_mod : sparseref07_Mod = modular_mod := rfl
theorem mul_rng {p x y : Int} (hm : p ≤ 2147483647) (hx : 0 ≤ x ∧ x < p) (hy : 0 ≤ y ∧ y < p) : 0 ≤ x * y ∧ x * y ≤ 4611686014132420609 :=
  ⟨Int.mul_nonneg hx.1 hy.1, by have := Int.mul_le_mul (show x ≤ 2147483647 by omega) (show y ≤ 2147483647 by omega) hy.1 (by omega); omega⟩
theorem wmr {p x y : Int} (hm : p ≤ 2147483647) (hx : 0 ≤ x ∧ x < p) (hy : 0 ≤ y ∧ y < p) : wr (wm .i64 x y) p = some (x * y % p) := by
  have := mul_rng hm hx hy
  rw [wm_i (by omega) (by omega), wr_nn this.1 (by omega)]
/-- the binary power -/
theorem raise_ok {p a : Nat} (hp : 1 < p) (hm : p ≤ 2147483647) (ha : a < p) {n : Nat} (hn : n < 1099511627776) : modular_raise (a : Int) (n : Int) (p : Int) = some ((a ^ n % p : Nat) : Int) := by
  refine Ret.eq ?_
  unfold modular_raise
  rw [ret_bind]
  refine (ret_loopM (Post := fun o => o = ((a ^ n % p : Nat) : Int)) (fun (s : Int × Int × Int) => ∃ A m O : Nat, s = ((A : Int), (m : Int), (O : Int)) ∧ A < p ∧ O < p ∧ m < 1099511627776 ∧ O * A ^ m % p = a ^ n % p) (fun s => s.2.1.toNat) ⟨a, n, 1, rfl, ha, hp, hn, by rw [Nat.one_mul]⟩ (by show ((n : Int)).toNat < _; omega) ?_).mono ?_
  · rintro _ ⟨A, m, O, rfl, hA, hO, hm2, hI⟩
    unfold modular_raise_l3
    simp only
    have hAA := mul_rng (p := p) (x := A) (y := A) (by omega) ⟨by omega, by omega⟩ ⟨by omega, by omega⟩
    have hOA := mul_rng (p := p) (x := O) (y := A) (by omega) ⟨by omega, by omega⟩ ⟨by omega, by omega⟩
    have e1 : wr (wm .i64 (A : Int) (A : Int)) (p : Int) = some ((A * A % p : Nat) : Int) := by rw [wmr (by omega) ⟨by omega, by omega⟩ ⟨by omega, by omega⟩]; simp
    have e2 : wr (wm .i64 (O : Int) (A : Int)) (p : Int) = some ((O * A % p : Nat) : Int) := by rw [wmr (by omega) ⟨by omega, by omega⟩ ⟨by omega, by omega⟩]; simp
    have e3 : wrc (m : Int) 2 = ((m % 2 : Nat) : Int) := by show Int.tmod (m : Int) 2 = _; rw [tmod_nn (by omega)]; omega
    have e4 : wqc .i64 (m : Int) 2 = ((m / 2 : Nat) : Int) := by
      show IntKind.wrap .i64 (Int.tdiv (m : Int) 2) = _
      rw [Int.tdiv_eq_ediv_of_nonneg (by omega), IntWalk.i64_in _ ⟨by omega, by omega⟩]; omega
    have hlt : ∀ z : Nat, z % p < p := fun z => Nat.mod_lt _ (by omega)
    rw [ret_if]
    refine ⟨fun h0 => ?_, fun h0 => ?_⟩
    · rw [e3, ret_if]
      refine ⟨fun h1 => ?_, fun h1 => ?_⟩
      · rw [e2, obs]
        unfold modular_raise_j4
        rw [e1, obs, e4]
        refine ⟨_, rfl, ⟨_, _, _, rfl, hlt _, hlt _, by omega, ?_⟩, by show ((m / 2 : Nat) : Int).toNat < ((m : Int)).toNat; omega⟩
        rw [Nt.pow_odd (by omega)]; exact hI
      · unfold modular_raise_j4
        rw [e1, obs, e4]
        refine ⟨_, rfl, ⟨_, _, _, rfl, hlt _, hO, by omega, ?_⟩, by show ((m / 2 : Nat) : Int).toNat < ((m : Int)).toNat; omega⟩
        rw [Nt.pow_even (by omega)]; exact hI
    · refine ⟨_, rfl, ?_⟩
      obtain rfl : m = 0 := by omega
      rw [Nat.pow_zero, Nat.mul_one, Nat.mod_eq_of_lt hO] at hI
      show (O : Int) = _
      rw [hI]
  · rintro _ rfl
    exact ⟨_, rfl, rfl⟩
theorem inverse_ok {p a : Int} (hp : PP p) (ha : 0 < a ∧ a < p) : ∃ f, modular_inverse a p = some f ∧ (0 ≤ f ∧ f < p) ∧ a * f % p = 1 := by
  have h2 := hp.two
  have h3 := hp.max
  obtain ⟨P, rfl⟩ := Int.eq_ofNat_of_zero_le (show 0 ≤ p by omega)
  obtain ⟨A, rfl⟩ := Int.eq_ofNat_of_zero_le (show 0 ≤ a by omega)
  refine ⟨((A ^ (P - 2) % P : Nat) : Int), ?_, ⟨by omega, ?_⟩, ?_⟩
  · unfold modular_inverse
    rw [ws_i (by omega) (by omega), show (P : Int) - 2 = ((P - 2 : Nat) : Int) by omega, raise_ok (by omega) (by omega) (by omega) (by omega), obs]
  · have := Nat.mod_lt (A ^ (P - 2)) (show P > 0 by omega); omega
  · have := Nt.inv_ok hp.prm (a := A) (by omega) (by simpa using (show A < P by omega))
    rw [Int.toNat_natCast] at this
    exact_mod_cast this
/-- a row told by a function -/
def Ln (l : List Int) (w : Nat) (f : Nat → Int) : Prop := l.length = w ∧ ∀ c, c < w → l[c]? = some (f c)
/-- a table told by a matrix -/
def Tb (T : List (List Int)) (n w : Nat) (A : Mx) : Prop := T.length = n ∧ ∀ r, r < n → ∃ l, T[r]? = some l ∧ Ln l w (A r)
theorem Ln.congr {l : List Int} {w : Nat} {f g : Nat → Int} (h : Ln l w f) (e : ∀ c, c < w → f c = g c) : Ln l w g := ⟨h.1, fun c hc => by rw [h.2 c hc, e c hc]⟩
theorem Ln.set {l : List Int} {w : Nat} {f : Nat → Int} (h : Ln l w f) {c : Nat} (hc : c < w) (x : Int) : Ln (l.set c x) w (fun j => if j = c then x else f j) := by
  refine ⟨by rw [List.length_set]; exact h.1, fun j hj => ?_⟩
  rw [List.getElem?_set]
  by_cases e : c = j
  · subst e
    show _ = some (if c = c then x else f c)
    rw [if_pos rfl, if_pos (by rw [h.1]; exact hc), if_pos rfl]
  · show _ = some (if j = c then x else f j)
    rw [if_neg e, if_neg (Ne.symm e)]; exact h.2 j hj
theorem Tb.congr {T : List (List Int)} {n w : Nat} {A B : Mx} (h : Tb T n w A) (e : ∀ r c, r < n → c < w → A r c = B r c) : Tb T n w B := ⟨h.1, fun r hr => by obtain ⟨l, h1, h2⟩ := h.2 r hr; exact ⟨l, h1, h2.congr fun c hc => e r c hr hc⟩⟩
theorem Tb.set {T : List (List Int)} {n w : Nat} {A : Mx} (h : Tb T n w A) {k : Nat} (hk : k < n) {l : List Int} {g : Nat → Int} (hl : Ln l w g) : Tb (T.set k l) n w (up A k g) := by
  refine ⟨by rw [List.length_set]; exact h.1, fun r hr => ?_⟩
  rw [List.getElem?_set]
  by_cases e : k = r
  · subst e; rw [if_pos rfl, if_pos (by rw [h.1]; exact hk)]; exact ⟨l, rfl, hl.congr fun c _ => up_in.symm⟩
  · rw [if_neg e]; obtain ⟨m, h1, h2⟩ := h.2 r hr; exact ⟨m, h1, h2.congr fun c _ => (up_out fun e' => e e'.symm).symm⟩
theorem Ln.get {l : List Int} {w : Nat} {f : Nat → Int} (h : Ln l w f) {c : Nat} (hc : c < w) {Q : Int → Prop} (hQ : Q (f c)) : Ret (getI l (c : Int)) Q := by
  rw [ret_get]
  refine ⟨by omega, by rw [h.1]; omega, fun x hx => ?_⟩
  rw [Int.toNat_natCast, h.2 c hc] at hx
  obtain rfl := Option.some.inj hx
  exact hQ
theorem Tb.get {T : List (List Int)} {n w : Nat} {A : Mx} (h : Tb T n w A) {r : Nat} (hr : r < n) {Q : List Int → Prop} (hQ : ∀ l, T[r]? = some l → Ln l w (A r) → Q l) : Ret (getI T (r : Int)) Q := by
  rw [ret_get]
  refine ⟨by omega, by rw [h.1]; omega, fun x hx => ?_⟩
  rw [Int.toNat_natCast] at hx
  obtain ⟨l, h1, h2⟩ := h.2 r hr
  rw [h1] at hx
  obtain rfl := Option.some.inj hx
  exact hQ l h1 h2
end Km
