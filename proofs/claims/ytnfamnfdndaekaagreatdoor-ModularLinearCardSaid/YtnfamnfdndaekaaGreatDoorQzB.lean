/- Remainders, powers, inverses, rows and tables: what the program's small loops compute. -/
import Derived.Test.YtnfamnfdndaekaaGreatDoorM5
import Derived.Test.YtnfamnfdndaekaaGreatDoorVcA
import Derived.Test.YtnfamnfdndaekaaGreatDoorQzA
import Derived.KernelRfl
set_option linter.unusedVariables false
set_option linter.unusedSimpArgs false
set_option maxHeartbeats 4000000
namespace Km
open Sx Go M Vc Dt
/-- a loop that comes to an end -/
theorem ret_loopM {τ ρ : Type} {step : τ → Option (τ ⊕ ρ)} {Post : ρ → Prop} (I : τ → Prop) (μ : τ → Nat) {s : τ} (h0 : I s) (hμ : μ s < 1099511627776)
    (h : ∀ t, I t → Ret (step t) (VQ (fun t' => I t' ∧ μ t' < μ t) Post)) : Ret (loop step s) Post := by
  have key : ∀ (fuel : Nat) (t : τ), μ t < fuel → I t → Ret (loopN step fuel t) Post := by
    intro fuel
    induction fuel with
    | zero => intro t h1; omega
    | succ n ih =>
      intro t h1 h2
      obtain ⟨x, hx, h3⟩ := h t h2
      cases x with
      | inr r => exact ⟨r, by simp [loopN, hx], h3⟩
      | inl t' =>
        obtain ⟨h4, h5⟩ := h3
        obtain ⟨y, hy, hp⟩ := ih t' (by omega) h4
        exact ⟨y, by simp [loopN, hx, hy], hp⟩
  exact key FUEL s hμ h0
/-- a modulus -/
structure PP (p : Int) : Prop where
  two : 2 ≤ p
  max : p ≤ 2147483647
  prm : Nt.Prm p.toNat
theorem tmod_nn {x p : Int} (h : 0 ≤ x) : x.tmod p = x % p := Int.tmod_eq_emod_of_nonneg h
theorem wr_nn {x p : Int} (h : 0 ≤ x) (hp : 0 < p) : wr x p = some (x % p) := by
  unfold wr; rw [if_neg (by omega), tmod_nn h]
theorem mod_rng {p : Int} (x : Int) (hp : 0 < p) : 0 ≤ x % p ∧ x % p < p := ⟨Int.emod_nonneg _ (by omega), Int.emod_lt_of_pos _ hp⟩
theorem emod_of {a p z k : Int} (h : a = z + p * k) (h0 : 0 ≤ z) (h1 : z < p) : z = a % p := by rw [h, Int.add_mul_emod_self_left, Int.emod_eq_of_lt h0 h1]
theorem mod_ok {a p : Int} (hp : 0 < p) (hm : p ≤ 2147483647) : modular_mod a p = some (a % p) := by
  unfold modular_mod wr modular_mod_j1
  rw [if_neg (by omega), obs]
  have h1 := Int.lt_tmod_of_pos a hp
  have h2 := Int.tmod_lt_of_pos a hp
  have h3 := Int.mul_tdiv_add_tmod a p
  split
  · rw [wa_i (by omega) (by omega)]
    refine congrArg some (emod_of (k := a.tdiv p - 1) ?_ (by omega) (by omega))
    rw [Int.mul_sub]; omega
  · exact congrArg some (emod_of (k := a.tdiv p) (by omega) (by omega) h2)
theorem ref_mod : sparseref07_Mod = modular_mod := rfl
theorem mul_rng {p x y : Int} (hm : p ≤ 2147483647) (hx : 0 ≤ x ∧ x < p) (hy : 0 ≤ y ∧ y < p) : 0 ≤ x * y ∧ x * y ≤ 4611686014132420609 :=
  ⟨Int.mul_nonneg hx.1 hy.1, by have := Int.mul_le_mul (show x ≤ 2147483647 by omega) (show y ≤ 2147483647 by omega) hy.1 (by omega); omega⟩
theorem wmr {p x y : Int} (hm : p ≤ 2147483647) (hx : 0 ≤ x ∧ x < p) (hy : 0 ≤ y ∧ y < p) : wr (wm .i64 x y) p = some (x * y % p) := by
  have := mul_rng hm hx hy
  rw [wm_i (by omega) (by omega), wr_nn this.1 (by omega)]
/-- the binary power -/
theorem raise_ok {p a : Nat} (hp : 1 < p) (hm : p ≤ 2147483647) (ha : a < p) {n : Nat} (hn : n < 1099511627776) : modular_raise (a : Int) (n : Int) (p : Int) = some ((a ^ n % p : Nat) : Int) := by
  refine Ret.eq ?_
  unfold modular_raise
  rw [ret_bind]
  refine (ret_loopM (Post := fun o => o = ((a ^ n % p : Nat) : Int)) (fun (s : Int × Int × Int) => ∃ A m O : Nat, s = ((A : Int), (m : Int), (O : Int)) ∧ A < p ∧ O < p ∧ m < 1099511627776 ∧ O * A ^ m % p = a ^ n % p) (fun s => s.2.1.toNat) ⟨a, n, 1, rfl, ha, hp, hn, by rw [Nat.one_mul]⟩ (by show ((n : Int)).toNat < _; omega) ?_).mono ?_
  · rintro _ ⟨A, m, O, rfl, hA, hO, hm2, hI⟩
    unfold modular_raise_l3
    simp only
    have hAA := mul_rng (p := p) (x := A) (y := A) (by omega) ⟨by omega, by omega⟩ ⟨by omega, by omega⟩
    have hOA := mul_rng (p := p) (x := O) (y := A) (by omega) ⟨by omega, by omega⟩ ⟨by omega, by omega⟩
    have e1 : wr (wm .i64 (A : Int) (A : Int)) (p : Int) = some ((A * A % p : Nat) : Int) := by rw [wmr (by omega) ⟨by omega, by omega⟩ ⟨by omega, by omega⟩]; simp
    have e2 : wr (wm .i64 (O : Int) (A : Int)) (p : Int) = some ((O * A % p : Nat) : Int) := by rw [wmr (by omega) ⟨by omega, by omega⟩ ⟨by omega, by omega⟩]; simp
    have e3 : wrc (m : Int) 2 = ((m % 2 : Nat) : Int) := by show Int.tmod (m : Int) 2 = _; rw [tmod_nn (by omega)]; omega
    have e4 : wqc .i64 (m : Int) 2 = ((m / 2 : Nat) : Int) := by
      show IntKind.wrap .i64 (Int.tdiv (m : Int) 2) = _
      rw [Int.tdiv_eq_ediv_of_nonneg (by omega), IntWalk.i64_in _ ⟨by omega, by omega⟩]; omega
    have hlt : ∀ z : Nat, z % p < p := fun z => Nat.mod_lt _ (by omega)
    rw [ret_if]
    refine ⟨fun h0 => ?_, fun h0 => ?_⟩
    · rw [e3, ret_if]
      refine ⟨fun h1 => ?_, fun h1 => ?_⟩
      · rw [e2, obs]
        unfold modular_raise_j4
        rw [e1, obs, e4]
        refine ⟨_, rfl, ⟨_, _, _, rfl, hlt _, hlt _, by omega, ?_⟩, by show ((m / 2 : Nat) : Int).toNat < ((m : Int)).toNat; omega⟩
        rw [Nt.pow_odd (by omega)]; exact hI
      · unfold modular_raise_j4
        rw [e1, obs, e4]
        refine ⟨_, rfl, ⟨_, _, _, rfl, hlt _, hO, by omega, ?_⟩, by show ((m / 2 : Nat) : Int).toNat < ((m : Int)).toNat; omega⟩
        rw [Nt.pow_even (by omega)]; exact hI
    · refine ⟨_, rfl, ?_⟩
      obtain rfl : m = 0 := by omega
      rw [Nat.pow_zero, Nat.mul_one, Nat.mod_eq_of_lt hO] at hI
      show (O : Int) = _
      rw [hI]
  · rintro _ rfl
    exact ⟨_, rfl, rfl⟩
theorem inverse_ok {p a : Int} (hp : PP p) (ha : 0 < a ∧ a < p) : ∃ f, modular_inverse a p = some f ∧ (0 ≤ f ∧ f < p) ∧ a * f % p = 1 := by
  have h2 := hp.two
  have h3 := hp.max
  obtain ⟨P, rfl⟩ := Int.eq_ofNat_of_zero_le (show 0 ≤ p by omega)
  obtain ⟨A, rfl⟩ := Int.eq_ofNat_of_zero_le (show 0 ≤ a by omega)
  refine ⟨((A ^ (P - 2) % P : Nat) : Int), ?_, ⟨by omega, ?_⟩, ?_⟩
  · unfold modular_inverse
    rw [ws_i (by omega) (by omega), show (P : Int) - 2 = ((P - 2 : Nat) : Int) by omega, raise_ok (by omega) (by omega) (by omega) (by omega), obs]
  · have := Nat.mod_lt (A ^ (P - 2)) (show P > 0 by omega); omega
  · have := Nt.inv_ok hp.prm (a := A) (by omega) (by simpa using (show A < P by omega))
    rw [Int.toNat_natCast] at this
    exact_mod_cast this
/-- a row told by a function -/
def Ln (l : List Int) (w : Nat) (f : Nat → Int) : Prop := l.length = w ∧ ∀ c, c < w → l[c]? = some (f c)
/-- a table told by a matrix -/
def Tb (T : List (List Int)) (n w : Nat) (A : Mx) : Prop := T.length = n ∧ ∀ r, r < n → ∃ l, T[r]? = some l ∧ Ln l w (A r)
theorem Ln.congr {l : List Int} {w : Nat} {f g : Nat → Int} (h : Ln l w f) (e : ∀ c, c < w → f c = g c) : Ln l w g := ⟨h.1, fun c hc => by rw [h.2 c hc, e c hc]⟩
theorem Ln.set {l : List Int} {w : Nat} {f : Nat → Int} (h : Ln l w f) {c : Nat} (hc : c < w) (x : Int) : Ln (l.set c x) w (fun j => if j = c then x else f j) := by
  refine ⟨by rw [List.length_set]; exact h.1, fun j hj => ?_⟩
  rw [List.getElem?_set]
  by_cases e : c = j
  · subst e
    show _ = some (if c = c then x else f c)
    rw [if_pos rfl, if_pos (by rw [h.1]; exact hc), if_pos rfl]
  · show _ = some (if j = c then x else f j)
    rw [if_neg e, if_neg (Ne.symm e)]; exact h.2 j hj
theorem Tb.congr {T : List (List Int)} {n w : Nat} {A B : Mx} (h : Tb T n w A) (e : ∀ r c, r < n → c < w → A r c = B r c) : Tb T n w B := ⟨h.1, fun r hr => by obtain ⟨l, h1, h2⟩ := h.2 r hr; exact ⟨l, h1, h2.congr fun c hc => e r c hr hc⟩⟩
theorem Tb.set {T : List (List Int)} {n w : Nat} {A : Mx} (h : Tb T n w A) {k : Nat} (hk : k < n) {l : List Int} {g : Nat → Int} (hl : Ln l w g) : Tb (T.set k l) n w (up A k g) := by
  refine ⟨by rw [List.length_set]; exact h.1, fun r hr => ?_⟩
  rw [List.getElem?_set]
  by_cases e : k = r
  · subst e; rw [if_pos rfl, if_pos (by rw [h.1]; exact hk)]; exact ⟨l, rfl, hl.congr fun c _ => up_in.symm⟩
  · rw [if_neg e]; obtain ⟨m, h1, h2⟩ := h.2 r hr; exact ⟨m, h1, h2.congr fun c _ => (up_out fun e' => e e'.symm).symm⟩
theorem Ln.get {l : List Int} {w : Nat} {f : Nat → Int} (h : Ln l w f) {c : Nat} (hc : c < w) {Q : Int → Prop} (hQ : Q (f c)) : Ret (getI l (c : Int)) Q := by
  rw [ret_get]
  refine ⟨by omega, by rw [h.1]; omega, fun x hx => ?_⟩
  rw [Int.toNat_natCast, h.2 c hc] at hx
  obtain rfl := Option.some.inj hx
  exact hQ
theorem Tb.get {T : List (List Int)} {n w : Nat} {A : Mx} (h : Tb T n w A) {r : Nat} (hr : r < n) {Q : List Int → Prop} (hQ : ∀ l, T[r]? = some l → Ln l w (A r) → Q l) : Ret (getI T (r : Int)) Q := by
  rw [ret_get]
  refine ⟨by omega, by rw [h.1]; omega, fun x hx => ?_⟩
  rw [Int.toNat_natCast] at hx
  obtain ⟨l, h1, h2⟩ := h.2 r hr
  rw [h1] at hx
  obtain rfl := Option.some.inj hx
  exact hQ l h1 h2
end Km
/- One step of the program's elimination modulo a prime, loop by loop. -/
namespace Km
open Sx Go M Vc Dt
section
variable {p : Int} {n w : Nat}
theorem sub_mod (p a b : Int) : (a - b % p) % p = (a - b) % p := Cg.iff.1 ((Cg.refl p a).sub (Cg.mod p b))
theorem subtract_ok (hp : 0 < p) (hm : p ≤ 2147483647) {l o : List Int} {f g : Nat → Int} {x : Int} (hl : Ln l w f) (ho : Ln o w g) (hf : ∀ c, c < w → 0 ≤ f c ∧ f c < p) (hg : ∀ c, c < w → 0 ≤ g c ∧ g c < p) (hx : 0 ≤ x ∧ x < p) (hw : w ≤ 1000) :
    Ret (modular_subtract l o x p) (fun l' => Ln l' w (fun c => (f c - x * g c) % p)) := by
  unfold modular_subtract
  rw [ret_bind]
  refine (ret_loop (Post := fun l' => Ln l' w (fun c => (f c - x * g c) % p)) w (fun k (s : List Int × Int) => s.2 = (k : Int) ∧ Ln s.1 w (fun j => if j < k then (f j - x * g j) % p else f j)) ⟨rfl, hl.congr fun c _ => by rw [if_neg (by omega)]⟩ ?_ (by omega)).mono fun _ h => ⟨_, rfl, h⟩
  rintro k ⟨l', _⟩ hk ⟨rfl, h⟩
  unfold modular_subtract_l1
  simp only at h ⊢
  rw [ret_if, ho.1]
  refine ⟨fun hlt => ?_, fun hge => ⟨_, rfl, ?_⟩⟩
  · have hkw : k < w := by omega
    rw [ret_bind]; refine ho.get hkw ?_
    rw [ret_bind]; refine h.get hkw ?_
    show Ret ((wr (wm .i64 x (g k)) p).bind _) _
    rw [if_neg (by omega), wmr hm hx (hg k hkw), obs]
    have h1 := mod_rng (x * g k) hp
    have h2 := hf k hkw
    rw [ws_i (by omega) (by omega), mod_ok hp hm, obs, ret_bind, ret_set]
    refine ⟨by omega, by rw [h.1]; omega, _, rfl, ?_⟩
    refine ⟨by omega, by show wa .i64 (k : Int) 1 = _; rw [wa_i (by omega) (by omega)]; omega, ?_⟩
    show Ln (l'.set (k : Int).toNat _) w _
    rw [Int.toNat_natCast]
    refine (h.set hkw _).congr fun j _ => ?_
    by_cases e : j = k
    · subst e; rw [if_pos rfl, if_pos (by omega), sub_mod]
    · rw [if_neg e]
      by_cases e2 : j < k
      · rw [if_pos e2, if_pos (by omega)]
      · rw [if_neg e2, if_neg (by omega)]
  · show Ln l' w _
    exact h.congr fun j hj => by rw [if_pos (by omega)]
theorem scale_ok (hp : 0 < p) (hm : p ≤ 2147483647) {T : List (List Int)} {A : Mx} (hT : Tb T n w A) {k : Nat} (hk : k < n) (hr : ∀ c, c < w → 0 ≤ A k c ∧ A k c < p) {f : Int} (hf : 0 ≤ f ∧ f < p) {top piv : List Int} (h1 : top.length = w) (h2 : piv.length = k) (hw : w ≤ 1000) :
    Ret (loop (modular_echelon_l163 top piv f p) (T, 0)) (fun T' => Tb T' n w (up A k (fun j => A k j * f % p))) := by
  refine ret_loop w (fun m (s : List (List Int) × Int) => s.2 = (m : Int) ∧ Tb s.1 n w (up A k (fun j => if j < m then A k j * f % p else A k j))) ⟨rfl, hT.congr fun r c hr hc => ?_⟩ ?_ (by omega)
  · by_cases e : r = k
    · subst e; rw [up_in, if_neg (by omega)]
    · rw [up_out e]
  · rintro m ⟨T', _⟩ hmw ⟨rfl, h⟩
    unfold modular_echelon_l163
    simp only at h ⊢
    rw [ret_if, h1, h2]
    refine ⟨fun hlt => ?_, fun hge => ⟨_, rfl, ?_⟩⟩
    · have hmw : m < w := by omega
      rw [ret_bind]; refine h.get hk fun l hl1 hl2 => ?_
      rw [ret_bind]; refine h.get hk fun l' hl1' hl2' => ?_
      obtain rfl := Option.some.inj (hl1.symm.trans hl1')
      rw [ret_bind]; refine hl2.get hmw ?_
      rw [up_in, if_neg (by omega), wmr hm (hr m hmw) hf, obs, ret_bind, ret_set]
      refine ⟨by omega, by rw [hl2.1]; omega, ?_⟩
      rw [ret_bind, ret_set]
      refine ⟨by omega, by rw [h.1]; omega, _, rfl, ?_⟩
      refine ⟨by omega, by show wa .i64 (m : Int) 1 = _; rw [wa_i (by omega) (by omega)]; omega, ?_⟩
      show Tb (T'.set (k : Int).toNat (l.set (m : Int).toNat _)) n w _
      rw [Int.toNat_natCast, Int.toNat_natCast]
      refine (h.set hk (hl2.set hmw _)).congr fun r c hr hc => ?_
      by_cases e : r = k
      · subst e
        rw [up_in, up_in]
        by_cases e2 : c = m
        · subst e2; rw [if_pos rfl, up_in, if_pos (by omega)]
        · rw [if_neg e2, up_in]
          by_cases e3 : c < m
          · rw [if_pos e3, if_pos (by omega)]
          · rw [if_neg e3, if_neg (by omega)]
      · rw [up_out e, up_out e, up_out e]
    · show Tb T' n w _
      refine h.congr fun r c hr hc => ?_
      by_cases e : r = k
      · subst e; rw [up_in, up_in, if_pos (by omega)]
      · rw [up_out e, up_out e]
/-- row k taken off the first m others, so that column c is cleared -/
def Em (p : Int) (A : Mx) (k c m : Nat) : Mx := fun r j => if r ≠ k ∧ r < m then (A r j - A r c * A k j) % p else A r j
theorem elim_ok (hp : 0 < p) (hm : p ≤ 2147483647) {T : List (List Int)} {A : Mx} (hT : Tb T n w A) {k c : Nat} (hk : k < n) (hc : c < w) (hr : ∀ r j, r < n → j < w → 0 ≤ A r j ∧ A r j < p) {T0 : List (List Int)} {piv : List Int} (h1 : T0.length = n) (h2 : piv.length = k) (hw : w ≤ 1000) (hn : n ≤ 1000) :
    Ret (loop (modular_echelon_l168 T0 piv (c : Int) p) (T, 0)) (fun T' => Tb T' n w (Em p A k c n)) := by
  refine ret_loop n (fun m (s : List (List Int) × Int) => s.2 = (m : Int) ∧ Tb s.1 n w (Em p A k c m)) ⟨rfl, hT.congr fun r j hr hc => ?_⟩ ?_ (by omega)
  · unfold Em; rw [if_neg (by omega)]
  · rintro m ⟨T', _⟩ hmw ⟨rfl, h⟩
    unfold modular_echelon_l168 modular_echelon_j170
    simp only at h ⊢
    rw [ret_if, h1, h2]
    refine ⟨fun hlt => ?_, fun hge => ⟨_, rfl, ?_⟩⟩
    · have hmn : m < n := by omega
      have nxt : wa .i64 (m : Int) 1 = ((m + 1 : Nat) : Int) := by rw [wa_i (by omega) (by omega)]; rfl
      have Emm : Em p A k c m m = A m := by funext j; unfold Em; rw [if_neg (by omega)]
      have Emk : Em p A k c m k = A k := by funext j; unfold Em; rw [if_neg (by omega)]
      rw [ret_bind]; refine h.get hmn fun l hl1 hl2 => ?_
      rw [Emm] at hl2
      rw [ret_bind, ret_if]
      refine ⟨fun he => ?_, fun he => ?_⟩
      · have he : m = k := by omega
        rw [ret_some, if_neg (by simp)]
        refine ⟨_, rfl, by omega, nxt, ?_⟩
        refine h.congr fun r j hr hc => ?_
        unfold Em
        by_cases e : r ≠ k ∧ r < m
        · rw [if_pos e, if_pos (by omega)]
        · rw [if_neg e, if_neg (by omega)]
      · have he : m ≠ k := by omega
        rw [ret_bind]; refine hl2.get hc ?_
        rw [ret_some, ret_if]
        have hz := hr m c hmn hc
        refine ⟨fun hne => ?_, fun hne => ?_⟩
        · rw [ret_bind]; refine h.get hk fun lk hk1 hk2 => ?_
          rw [Emk] at hk2
          rw [ret_bind]; refine hl2.get hc ?_
          have hnei : neI (m : Int) (k : Int) = some () := by unfold neI; rw [if_neg (by omega)]
          rw [hnei, obs, ret_bind]
          refine (subtract_ok hp hm hl2 hk2 (fun j hj => hr m j hmn hj) (fun j hj => hr k j hk hj) hz hw).mono fun l' hl' => ?_
          rw [ret_bind, ret_set]
          refine ⟨by omega, by rw [h.1]; omega, _, rfl, by omega, nxt, ?_⟩
          show Tb (T'.set (m : Int).toNat l') n w _
          rw [Int.toNat_natCast]
          refine (h.set hmn hl').congr fun r j hr hc => ?_
          by_cases e : r = m
          · subst e; rw [up_in]; unfold Em; rw [if_pos ⟨he, by omega⟩]
          · rw [up_out e]; unfold Em
            by_cases e2 : r ≠ k ∧ r < m
            · rw [if_pos e2, if_pos (by omega)]
            · rw [if_neg e2, if_neg (by omega)]
        · have h0 : A m c = 0 := by simpa using hne
          refine ⟨_, rfl, by omega, nxt, ?_⟩
          refine h.congr fun r j hr' hc => ?_
          unfold Em
          by_cases e : r = m
          · subst e
            rw [if_neg (by omega), if_pos ⟨he, by omega⟩, h0, Int.zero_mul, Int.sub_zero]
            have := hr r j hr' hc
            rw [Int.emod_eq_of_lt this.1 this.2]
          · by_cases e2 : r ≠ k ∧ r < m
            · rw [if_pos e2, if_pos (by omega)]
            · rw [if_neg e2, if_neg (by omega)]
    · show Tb T' n w _
      refine h.congr fun r j hr hc => ?_
      unfold Em
      by_cases e : r ≠ k ∧ r < m
      · rw [if_pos e, if_pos (by omega)]
      · rw [if_neg e, if_neg (by omega)]
theorem find_ok {T : List (List Int)} {A : Mx} (hT : Tb T n w A) {c : Nat} (hc : c < w) (hn : n ≤ 1000) :
    Ret (slices_IndexFunc_int_v2 T (c : Int)) (fun i => (i = -1 ∧ ∀ r, r < n → A r c = 0) ∨ ∃ r : Nat, i = (r : Int) ∧ r < n ∧ A r c ≠ 0) := by
  unfold slices_IndexFunc_int_v2
  rw [ret_bind]
  refine (ret_loop (Post := fun o => (o = .inl () ∧ ∀ r, r < n → A r c = 0) ∨ ∃ r : Nat, o = .inr (r : Int) ∧ r < n ∧ A r c ≠ 0) n (fun k (i : Int) => i = (k : Int) ∧ k ≤ n ∧ ∀ r, r < k → A r c = 0) ⟨rfl, by omega, fun r h => absurd h (by omega)⟩ ?_ (by omega)).mono ?_
  · rintro k _ hk ⟨rfl, hkn, h0⟩
    unfold slices_IndexFunc_int_v2_l1 modular_echelon_1
    rw [ret_if, hT.1]
    refine ⟨fun hlt => ?_, fun hge => ⟨_, rfl, .inl ⟨rfl, fun r hr => h0 r (by omega)⟩⟩⟩
    have hkn : k < n := by omega
    rw [ret_bind]; refine hT.get hkn fun l hl1 hl2 => ?_
    rw [ret_bind, ret_bind]; refine hl2.get hc ?_
    rw [ret_some, ret_if]
    refine ⟨fun hne => ⟨_, rfl, .inr ⟨k, rfl, hkn, by simpa using hne⟩⟩, fun hne => ⟨_, rfl, by omega, by rw [wa_i (by omega) (by omega)]; rfl, by omega, fun r hr => ?_⟩⟩
    by_cases e : r = k
    · subst e; simpa using hne
    · exact h0 r (by omega)
  · rintro o (⟨rfl, h⟩ | ⟨r, rfl, h1, h2⟩)
    · exact ⟨_, rfl, .inl ⟨rfl, h⟩⟩
    · exact ⟨_, rfl, .inr ⟨r, rfl, h1, h2⟩⟩
end
end Km
/- The program's elimination modulo a prime brings a table into the reduced row echelon form. -/
namespace Km
open Sx Go M Vc Dt
section
variable {p : Int} {n w : Nat} {A B : Mx} {col : Nat → Nat} {k c : Nat}
theorem _root_.Dt.Rre.none (h : Rre p n w B col k c) (hc : c < w) (hz : ∀ r, k ≤ r → r < n → B r c = 0) : Rre p n w B col k (c + 1) where
  kn := h.kn
  cw := hc
  lt := fun s hs => by have := h.lt s hs; omega
  asc := h.asc
  unit := h.unit
  zero := fun r j h1 h2 h3 => by
    by_cases e : j = c
    · subst e; exact hz r h1 h2
    · exact h.zero r j h1 h2 (by omega)
  rng := h.rng
  lead := h.lead
/-- all rows have a pivot: the other columns need no look -/
theorem _root_.Dt.Rre.full (h : Rre p n w B col n c) : Rre p n w B col n w where
  kn := h.kn
  cw := Nat.le_refl w
  lt := fun s hs => by have := h.lt s hs; have := h.cw; omega
  asc := h.asc
  unit := h.unit
  zero := fun r j h1 h2 h3 => absurd h1 (by omega)
  rng := h.rng
  lead := h.lead
/-- row k is scaled by f, and taken off the others -/
def St3 (p : Int) (n : Nat) (B : Mx) (k c : Nat) (f : Int) : Mx := Em p (up B k (fun j => B k j * f % p)) k c n
theorem St3.self {f : Int} {j : Nat} : St3 p n B k c f k j = B k j * f % p := by
  unfold St3 Em; rw [if_neg (by omega), up_in]
theorem St3.oth {f : Int} {r j : Nat} (hr : r ≠ k) (hn : r < n) : St3 p n B k c f r j = (B r j - B r c * (B k j * f % p)) % p := by
  unfold St3 Em; rw [if_pos ⟨hr, hn⟩, up_out hr, up_out hr, up_in]
theorem St3.cg {f : Int} {r j : Nat} (hn : r < n) : Cg p (St3 p n B k c f r j) (Dt.adds (up B k (fun c => f * B k c)) k (fun r => -(B r c)) n r j) := by
  by_cases hr : r = k
  · subst hr
    rw [St3.self, adds_out (by omega), up_in, Int.mul_comm]
    exact Cg.mod p _
  · rw [St3.oth hr hn, adds_in ⟨hr, hn⟩, up_out hr, up_in]
    refine (Cg.mod p _).trans ?_
    have : B r j + -(B r c) * (f * B k j) = B r j - B r c * (B k j * f) := by
      rw [Int.neg_mul, Int.mul_comm f]; rfl
    rw [this]
    exact (Cg.refl p _).sub ((Cg.refl p _).mul (Cg.mod p _))
theorem sw_low (h : Rre p n w B col k c) {t : Nat} (hk : k < n) (hkt : k ≤ t) (ht : t < n) : ∀ s r, s < k → r < n → sw B k t r (col s) = if r = s then 1 else 0 := by
  intro s r hs hr
  unfold sw
  by_cases h1 : r = k
  · rw [if_pos h1, h.unit s t hs ht, if_neg (by omega), if_neg (by omega)]
  · rw [if_neg h1]
    by_cases h2 : r = t
    · rw [if_pos h2, h.unit s k hs hk, if_neg (by omega), if_neg (by omega)]
    · rw [if_neg h2]; exact h.unit s r hs hr
theorem sw_zero (h : Rre p n w B col k c) {t : Nat} (hk : k < n) (hkt : k ≤ t) (ht : t < n) : ∀ r j, k ≤ r → r < n → j < c → sw B k t r j = 0 := by
  intro r j h1 h2 h3
  unfold sw
  split
  · exact h.zero t j hkt ht h3
  · split
    · exact h.zero k j (Nat.le_refl k) hk h3
    · exact h.zero r j h1 h2 h3
theorem _root_.Dt.Rre.next (hp : 2 ≤ p) (h : Rre p n w B col k c) (hc : c < w) {t : Nat} (hk : k < n) (hkt : k ≤ t) (ht : t < n) {f : Int} (hf : sw B k t k c * f % p = 1) :
    Rre p n w (St3 p n (sw B k t) k c f) (fun s => if s = k then c else col s) (k + 1) (c + 1) := by
  have pv : ∀ r, r < n → r ≠ k → St3 p n (sw B k t) k c f r c = 0 := by
    intro r hr hne
    rw [St3.oth hne hr, hf, Int.mul_one, Int.sub_self, Int.zero_emod]
  have lo := sw_low h hk hkt ht
  have ze := sw_zero h hk hkt ht
  have kc : ∀ s, s < k → sw B k t s = B s := by
    intro s hs; funext j; unfold sw; rw [if_neg (by omega), if_neg (by omega)]
  refine ⟨hk, hc, fun s hs => ?_, fun s u h1 h2 => ?_, fun s r hs hr => ?_, fun r j h1 h2 h3 => ?_, fun r j h1 h2 => ?_, fun s j hs hj => ?_⟩
  · split
    · omega
    · have := h.lt s (by omega); omega
  · rw [if_neg (show s ≠ k by omega)]
    split
    · exact h.lt s (by omega)
    · exact h.asc s u h1 (by omega)
  · by_cases e : s = k
    · subst e
      rw [if_pos rfl]
      by_cases e2 : r = s
      · subst e2; rw [if_pos rfl, St3.self]; exact hf
      · rw [if_neg e2]; exact pv r hr e2
    · rw [if_neg e]
      by_cases e2 : r = k
      · subst e2
        rw [St3.self, lo s r (by omega) hk, if_neg (by omega), Int.zero_mul, Int.zero_emod]
      · rw [St3.oth e2 hr, lo s k (by omega) hk, if_neg (by omega), Int.zero_mul, Int.zero_emod, Int.mul_zero, Int.sub_zero, lo s r (by omega) hr]
        split
        · exact Int.emod_eq_of_lt (by omega) (by omega)
        · exact Int.zero_emod p
  · by_cases e : j = c
    · subst e; exact pv r h2 (by omega)
    · rw [St3.oth (by omega) h2, ze r j (by omega) h2 (by omega), ze k j (Nat.le_refl k) hk (by omega), Int.zero_mul, Int.zero_emod, Int.mul_zero, Int.sub_zero, Int.zero_emod]
  · by_cases e : r = k
    · subst e; rw [St3.self]; exact mod_rng _ (by omega)
    · rw [St3.oth e h1]; exact mod_rng _ (by omega)
  · by_cases e : s = k
    · subst e
      rw [if_pos rfl] at hj
      rw [St3.self, ze s j (Nat.le_refl s) hk hj, Int.zero_mul, Int.zero_emod]
    · rw [if_neg e] at hj
      have := h.lt s (by omega)
      rw [St3.oth e (by omega), ze k j (Nat.le_refl k) hk (by omega), Int.zero_mul, Int.zero_emod, Int.mul_zero, Int.sub_zero, kc s (by omega), h.lead s j (by omega) hj, Int.zero_emod]
theorem sw_self (B : Mx) (k : Nat) : sw B k k = B := by
  funext r c; unfold sw; split
  · rename_i h; rw [h]
  · rfl
theorem Rq.sw3 {t : Nat} (hk : k < n) (ht : t < n) {f : Int} (hf : Cg p (sw B k t k c * f) 1) : Rq p n w B (St3 p n (sw B k t) k c f) := by
  refine (Rq.sw B hk ht).trans ((Rq.step (Dt.sw B k t) hk hf fun r => -(Dt.sw B k t r c)).trans (Rq.cg fun r j hr _ => (St3.cg hr).symm))
/-- the product of the pivots -/
theorem det_next {t : Nat} (hk : k < n) (ht : t < n) {f d q : Int} (hf : Cg p (sw B k t k c * f) 1) (hd : Cg p d (q * det n B)) : Cg p d (((if t = k then q else -q) * sw B k t k c) * det n (St3 p n (sw B k t) k c f)) := by
  have h1 : Cg p (det n (St3 p n (sw B k t) k c f)) (f * det n (sw B k t)) := by
    rw [← det_step (Dt.sw B k t) hk f (fun r => -(Dt.sw B k t r c))]
    exact Cg.det fun r j hr _ => St3.cg hr
  have h2 : (if t = k then q else -q) * det n (sw B k t) = q * det n B := by
    split
    · rename_i e; subst e; rw [sw_self]
    · rename_i e
      rw [(det_am n).swap hk ht (by omega) B, Int.neg_mul_neg]
  have h3 : Cg p (((if t = k then q else -q) * sw B k t k c) * det n (St3 p n (sw B k t) k c f)) (q * det n B) := by
    refine ((Cg.refl p _).mul h1).trans ?_
    have e : (if t = k then q else -q) * sw B k t k c * (f * det n (sw B k t)) = (sw B k t k c * f) * ((if t = k then q else -q) * det n (sw B k t)) := by grind
    rw [e, h2]
    have := hf.mul (Cg.refl p (q * det n B))
    rwa [Int.one_mul] at this
  exact hd.trans h3.symm
end
/-- the list of the pivots' columns -/
def Pv (l : List Int) (k : Nat) (col : Nat → Nat) : Prop := l.length = k ∧ ∀ s, s < k → l[s]? = some (col s : Int)
theorem Pv.push {l : List Int} {k c : Nat} {col : Nat → Nat} (h : Pv l k col) : Pv (l ++ [(c : Int)]) (k + 1) (fun s => if s = k then c else col s) := by
  refine ⟨by simp [h.1], fun s hs => ?_⟩
  by_cases e : s = k
  · subst e; simp only [if_true]; rw [List.getElem?_append_right (by rw [h.1]; omega), h.1, Nat.sub_self]; rfl
  · rw [List.getElem?_append_left (by rw [h.1]; omega), h.2 s (by omega)]; simp only [e, if_false]
theorem Tb.drop {n w : Nat} {T : List (List Int)} {A : Mx} (h : Tb T n w A) (k : Nat) (hk : k ≤ n) : Tb ((T.take n).drop k) (n - k) w (fun r => A (k + r)) := by
  refine ⟨by rw [List.length_drop, List.length_take, h.1]; omega, fun r hr => ?_⟩
  obtain ⟨l, h1, h2⟩ := h.2 (k + r) (by omega)
  exact ⟨l, by rw [List.getElem?_drop, List.getElem?_take, if_pos (by omega)]; exact h1, h2⟩
/-- what the elimination leaves -/
def Ech (p : Int) (n w : Nat) (A : Mx) (o : List (List Int) × List Int × Int) (k : Nat) (B : Mx) (col : Nat → Nat) (c : Nat) : Prop :=
  Tb o.1 n w B ∧ Rre p n w B col k c ∧ Rq p n w A B ∧ Pv o.2.1 k col ∧ (0 ≤ o.2.2 ∧ o.2.2 < p) ∧ Cg p (det n A) (o.2.2 * det n B) ∧ ∃ u, Cg p (o.2.2 * u) 1
theorem echelon_ok {p : Int} (hP : PP p) {n w : Nat} (hn : 0 < n) (hn2 : n ≤ 1000) (hw : w ≤ 1000) {T : List (List Int)} {A : Mx} (hT : Tb T n w A) (hA : ∀ r j, r < n → j < w → 0 ≤ A r j ∧ A r j < p) :
    Ret (modular_echelon T p) (fun o => ∃ k B col, Ech p n w A o k B col w) := by
  have hp := hP.two
  have hm := hP.max
  unfold modular_echelon modular_columns
  rw [ret_bind, ret_if, hT.1]
  refine ⟨fun h => absurd h (by omega), fun _ => ?_⟩
  rw [ret_bind]
  have hg := hT.get hn (Q := fun l => l.length = w) (fun l _ hl => hl.1)
  refine hg.mono fun l0 hl0 => ?_
  rw [ret_some, hl0, ret_bind]
  refine (ret_loop (Post := fun o => ∃ k B col, Ech p n w A o k B col w) w (fun c (s : List (List Int) × List Int × Int × Int) => s.2.2.2 = (c : Int) ∧ ∃ k B col, Ech p n w A (s.1, s.2.1, s.2.2.1) k B col c) ⟨rfl, 0, A, fun _ => 0, hT, ⟨by omega, by omega, fun s h => absurd h (by omega), fun s t h1 h2 => absurd h2 (by omega), fun s r h => absurd h (by omega), fun r j _ _ h => absurd h (by omega), hA, fun s j h => absurd h (by omega)⟩, Rq.refl _ _ _ _, ⟨rfl, fun s h => absurd h (by omega)⟩, ⟨by show (0 : Int) ≤ 1; omega, by show (1 : Int) < p; omega⟩, ⟨by show Cg p _ (1 * _); rw [Int.one_mul]; exact .refl _ _, 1, .refl _ _⟩⟩ ?_ (by omega)).mono ?_
  · rintro c ⟨T', pv, q, _⟩ hcw ⟨rfl, k, B, col, h1, h2, h3, h4, h5, h6⟩
    simp only at h1 h4 h5 h6
    unfold modular_echelon_l142 modular_echelon_j161
    simp only
    have hkn := h2.kn
    rw [ret_if]
    refine ⟨fun hlt => ?_, fun hge => ⟨_, rfl, k, B, col, h1, (by have e : c = w := (by omega); subst e; exact h2), h3, h4, h5, h6⟩⟩
    have hcw : c < w := by omega
    have nxt : wa .i64 (c : Int) 1 = ((c + 1 : Nat) : Int) := by rw [wa_i (by omega) (by omega)]; rfl
    rw [ret_if, h4.1, h1.1]
    refine ⟨fun he => ⟨_, rfl, k, B, col, h1, (by have e : k = n := (by omega); subst e; exact h2.full), h3, h4, h5, h6⟩, fun he => ?_⟩
    have hkn : k < n := by omega
    rw [ret_bind, ret_sli]
    refine ⟨by omega, by omega, by rw [h1.1]; omega, ?_⟩
    rw [Int.toNat_natCast, Int.toNat_natCast, ret_bind]
    refine (find_ok (h1.drop k (by omega)) hcw (by omega)).mono fun i hi => ?_
    rw [wa_i (by rcases hi with ⟨rfl, _⟩ | ⟨r, rfl, _⟩ <;> omega) (by rcases hi with ⟨rfl, _⟩ | ⟨r, rfl, h, _⟩ <;> omega)]
    rw [ret_if]
    refine ⟨fun hlo => ?_, fun hlo => ?_⟩
    · obtain ⟨rfl, hz⟩ : i = -1 ∧ ∀ r, r < n - k → B (k + r) c = 0 := by
        rcases hi with h | ⟨r, rfl, _⟩
        · exact h
        · omega
      refine ⟨_, rfl, by omega, nxt, k, B, col, h1, h2.none hcw (fun r hr1 hr2 => ?_), h3, h4, h5, h6⟩
      have := hz (r - k) (by omega)
      rwa [show k + (r - k) = r by omega] at this
    · obtain ⟨r, rfl, hr, hne⟩ : ∃ r : Nat, i = (r : Int) ∧ r < n - k ∧ B (k + r) c ≠ 0 := by
        rcases hi with ⟨rfl, _⟩ | h
        · omega
        · exact h
      -- what is left to do once the pivot's row is at its place
      have key : ∀ (T1 : List (List Int)) (q1 : Int), Tb T1 n w (sw B k (k + r)) → (0 ≤ q1 ∧ q1 < p) → Cg p q1 (if k + r = k then q else -q) →
          Ret (modular_echelon_j162 pv (c : Int) p T1 q1) (VQ (fun t' : List (List Int) × List Int × Int × Int => c < w ∧ t'.2.2.2 = ((c + 1 : Nat) : Int) ∧ ∃ k B col, Ech p n w A (t'.1, t'.2.1, t'.2.2.1) k B col (c + 1)) (fun o => ∃ k B col, Ech p n w A o k B col w)) := by
        intro T1 q1 hT1 hq1 hqq
        have hB1 : ∀ r' j, r' < n → j < w → 0 ≤ sw B k (k + r) r' j ∧ sw B k (k + r) r' j < p := by
          intro r' j hr' hj
          unfold sw
          split
          · exact h2.rng _ _ (by omega) hj
          · split
            · exact h2.rng _ _ hkn hj
            · exact h2.rng _ _ hr' hj
        have hpv : sw B k (k + r) k c = B (k + r) c := by unfold sw; rw [if_pos rfl]
        have hb := hB1 k c hkn hcw
        obtain ⟨f, hf1, hf2, hf3⟩ := inverse_ok hP (a := sw B k (k + r) k c) ⟨by rw [hpv] at hb ⊢; omega, hb.2⟩
        have hfc : Cg p (sw B k (k + r) k c * f) 1 := by
          have e1 : (1 : Int) % p = 1 := Int.emod_eq_of_lt (by omega) (by omega)
          exact Cg.iff.2 (by rw [hf3, e1])
        unfold modular_echelon_j162
        rw [h4.1, ret_bind]; refine hT1.get hkn fun l1 hl1 hl1' => ?_
        rw [ret_bind]; refine hl1'.get hcw ?_
        rw [wmr hm hq1 hb, obs, ret_bind]; refine hT1.get hkn fun l2 hl2 hl2' => ?_
        rw [ret_bind]; refine hl2'.get hcw ?_
        rw [hf1, obs, ret_bind]; refine hT1.get hkn fun l3 hl3 hl3' => ?_
        rw [ret_bind]
        refine (scale_ok (by omega) hm hT1 hkn (fun j hj => hB1 k j hkn hj) hf2 hl3'.1 h4.1 hw).mono fun T2 hT2 => ?_
        rw [ret_bind]
        refine (elim_ok (by omega) hm hT2 hkn hcw (fun r' j hr' hj => ?_) hT2.1 h4.1 hw hn2).mono fun T3 hT3 => ?_
        · by_cases e : r' = k
          · subst e; rw [up_in]; exact mod_rng _ (by omega)
          · rw [up_out e]; exact hB1 r' j hr' hj
        rw [ret_bind, ret_app]
        have := h2.kc
        refine ⟨by rw [h4.1]; simp only [List.length_cons, List.length_nil]; omega, _, rfl, hcw, nxt, k + 1, _, _, hT3, h2.next hp hcw hkn (by omega) (by omega) hf3, h3.trans (Rq.sw3 hkn (by omega) hfc), h4.push, mod_rng _ (by omega), ?_, ?_⟩
        · refine (det_next hkn (show k + r < n by omega) hfc h6.1).trans ?_
          refine Cg.mul ?_ (Cg.refl p _)
          exact ((hqq.symm.mul (Cg.refl p _))).trans (Cg.mod p _).symm
        · obtain ⟨u, hu⟩ := h6.2
          refine ⟨(if k + r = k then u else -u) * f, ?_⟩
          have e1 : Cg p (q1 * (if k + r = k then u else -u)) 1 := by
            refine (hqq.mul (Cg.refl p _)).trans ?_
            split
            · exact hu
            · rw [Int.neg_mul_neg]; exact hu
          have e2 := e1.mul hfc
          rw [Int.one_mul] at e2
          refine ((Cg.mod p _).mul (Cg.refl p _)).trans ?_
          have e3 : q1 * sw B k (k + r) k c * ((if k + r = k then u else -u) * f) = q1 * (if k + r = k then u else -u) * (sw B k (k + r) k c * f) := by grind
          show Cg p (q1 * sw B k (k + r) k c * ((if k + r = k then u else -u) * f)) 1
          rw [e3]; exact e2
      rw [ret_if]
      refine ⟨fun hgt => ?_, fun hgt => ?_⟩
      · have hr0 : 0 < r := by omega
        have ecast : (k : Int) + (r : Int) = ((k + r : Nat) : Int) := by omega
        rw [ecast, ret_bind]; refine h1.get (show k + r < n by omega) fun la hla hla' => ?_
        rw [ret_bind]; refine h1.get hkn fun lk hlk hlk' => ?_
        rw [ret_bind, ret_set]
        refine ⟨by omega, by rw [h1.1]; omega, ?_⟩
        rw [ret_bind, ret_set]
        refine ⟨by omega, by rw [List.length_set, h1.1]; omega, ?_⟩
        rw [mod_ok (by omega) hm, obs]
        refine key _ _ ?_ (mod_rng _ (by omega)) ?_
        · rw [Int.toNat_natCast, Int.toNat_natCast]
          refine ((h1.set hkn hla').set (show k + r < n by omega) hlk').congr fun r' j _ _ => ?_
          unfold sw up
          by_cases e1 : r' = k
          · rw [if_neg (by omega), if_pos e1, if_pos e1]
          · by_cases e2 : r' = k + r
            · rw [if_pos e2, if_neg e1, if_pos e2]
            · rw [if_neg e2, if_neg e1, if_neg e1, if_neg e2]
        · rw [if_neg (by omega)]
          have : wneg .i64 q = -q := IntWalk.i64_in _ ⟨by omega, by omega⟩
          rw [this]
          exact Cg.mod p _
      · have hr0 : r = 0 := by omega
        subst hr0
        refine key _ _ ?_ h5 ?_
        · rw [Nat.add_zero, sw_self]; exact h1
        · rw [if_pos (Nat.add_zero k)]; exact .refl _ _
  · rintro ⟨T', pv, q⟩ h
    exact ⟨_, rfl, h⟩
end Km
/- Checks, reduced copies, kernel, rank and solution: what the program's functions return. -/
namespace Km
open Sx Go M Vc Dt
theorem sqb {i : Int} (h2 : 2 ≤ i) (h3 : i ≤ 46342) : 0 ≤ i * i ∧ i * i ≤ 46342 * 46342 := ⟨Int.mul_nonneg (by omega) (by omega), Int.mul_le_mul h3 h3 (by omega) (by omega)⟩
theorem isPrime_ok {p : Int} (hP : PP p) : modular_IsPrime p = some true := by
  have hp := hP.two
  have hm := hP.max
  refine Ret.eq ?_
  unfold modular_IsPrime
  rw [ret_if]
  refine ⟨fun h => ?_, fun _ => ?_⟩
  · simp only [Bool.or_eq_true, decide_eq_true_eq] at h; omega
  · rw [ret_bind]
    refine (ret_loopM (Post := fun o => o = .inl ()) (fun i => 2 ≤ i ∧ i ≤ 46342) (fun i => (46342 - i).toNat) (by decide) (by decide) ?_).mono ?_
    · rintro i ⟨h2, h3⟩
      obtain ⟨h4, h5⟩ := sqb h2 h3
      unfold modular_IsPrime_l2
      rw [wm_i (by omega) (by omega)]
      split
      · rename_i hle
        have h6 : i ≤ 46341 := by
          refine Classical.byContradiction fun hc => ?_
          obtain rfl : i = 46342 := by omega
          omega
        rw [wr_nn (by omega) (by omega), obs]
        split
        · rename_i h0
          exfalso
          have hd : i ∣ p := Int.dvd_of_emod_eq_zero h0
          obtain ⟨P, rfl⟩ := Int.eq_ofNat_of_zero_le (show 0 ≤ p by omega)
          obtain ⟨I, rfl⟩ := Int.eq_ofNat_of_zero_le (show 0 ≤ i by omega)
          have hd' : I ∣ P := by exact_mod_cast hd
          have := hP.prm.div I (by simpa using hd')
          rw [Int.toNat_natCast] at this
          rcases this with e | e
          · omega
          · subst e
            have : (I : Int) * 2 ≤ (I : Int) * (I : Int) := Int.mul_le_mul_of_nonneg_left (by omega) (by omega)
            omega
        · refine ⟨_, rfl, ?_⟩
          rw [wa_i (by omega) (by omega)]
          exact ⟨⟨by omega, by omega⟩, by show (46342 - (i + 1)).toNat < (46342 - i).toNat; omega⟩
      · exact ⟨_, rfl, rfl⟩
    · rintro _ rfl
      exact ⟨_, rfl, rfl⟩
section
variable {p : Int} {n w : Nat} {T : List (List Int)} {X : Mx}
theorem columns_ok (hn : 0 < n) (hT : Tb T n w X) : modular_columns T = some (w : Int) := by
  refine Ret.eq ?_
  unfold modular_columns
  rw [ret_if, hT.1]
  refine ⟨fun h => absurd h (by omega), fun _ => ?_⟩
  rw [ret_bind]
  refine (hT.get hn (Q := fun l => l.length = w) (fun l _ hl => hl.1)).mono fun l hl => ?_
  rw [ret_some, hl]
theorem check_ok (hP : PP p) (hn : 0 < n) (hn2 : n ≤ 200) (hw : w ≤ 200) (hT : Tb T n w X) : modular_check T p = some 0 := by
  refine Ret.eq ?_
  unfold modular_check
  rw [columns_ok hn hT, obs, isPrime_ok hP, obs, if_pos rfl, ret_bind]
  have hc : slices_ContainsFunc_int T (w : Int) = some false := by
    refine Ret.eq ?_
    unfold slices_ContainsFunc_int slices_IndexFunc_int
    rw [ret_bind, ret_bind]
    refine (ret_loop (Post := fun o => o = .inl ()) n (fun k (i : Int) => i = (k : Int)) rfl ?_ (by omega)).mono ?_
    · rintro k _ hk rfl
      unfold slices_IndexFunc_int_l1 modular_check_1
      rw [ret_if, hT.1]
      refine ⟨fun hlt => ?_, fun _ => ⟨_, rfl, rfl⟩⟩
      rw [ret_bind]; refine hT.get (show k < n by omega) fun l _ hl => ?_
      rw [obs, hl.1, if_neg (by simp)]
      exact ⟨_, rfl, by omega, by rw [wa_i (by omega) (by omega)]; rfl⟩
    · rintro _ rfl
      exact ⟨_, rfl, _, rfl, rfl⟩
  rw [ret_of hc, if_neg (by simp), hT.1, if_neg (by simp; omega), ret_some]
theorem reduced_ok (hp : 0 < p) (hm : p ≤ 2147483647) (hn2 : n ≤ 1000) (hw : w ≤ 1000) (hT : Tb T n w X) : Ret (modular_reduced T p) (fun R => Tb R n w (fun r c => X r c % p)) := by
  unfold modular_reduced
  rw [ret_bind]
  refine (ret_loop (Post := fun R => Tb R n w (fun r c => X r c % p)) n (fun k (s : List (List Int) × Int) => s.2 = (k : Int) ∧ Tb s.1 k w (fun r c => X r c % p)) ⟨rfl, rfl, fun r h => absurd h (by omega)⟩ ?_ (by omega)).mono fun R h => ⟨_, rfl, h⟩
  rintro k ⟨R, _⟩ hk ⟨rfl, h⟩
  unfold modular_reduced_l3
  simp only at h ⊢
  rw [ret_if, hT.1]
  refine ⟨fun hlt => ?_, fun _ => ⟨_, rfl, by show Tb R n w _; have : k = n := (by omega); exact this ▸ h⟩⟩
  have hkn : k < n := by omega
  rw [ret_bind]; refine hT.get hkn fun l _ hl => ?_
  rw [ret_bind]
  refine (ret_loop (Post := fun o => Ln o w (fun c => X k c % p)) w (fun j (s : List Int × Int) => s.2 = (j : Int) ∧ Ln s.1 j (fun c => X k c % p)) ⟨rfl, rfl, fun c h => absurd h (by omega)⟩ ?_ (by omega)).mono fun o ho => ?_
  · rintro j ⟨o, _⟩ hj ⟨rfl, ho⟩
    unfold modular_reduced_l4
    simp only at ho ⊢
    rw [ret_if, hl.1]
    refine ⟨fun hlt => ?_, fun _ => ⟨_, rfl, by show Ln o w _; have : j = w := (by omega); exact this ▸ ho⟩⟩
    rw [ret_bind]; refine hl.get (show j < w by omega) ?_
    rw [mod_ok hp hm, obs, ret_bind, ret_app]
    refine ⟨by rw [ho.1]; simp only [List.length_cons, List.length_nil]; omega, _, rfl, by omega, by show wa .i64 (j : Int) 1 = _; rw [wa_i (by omega) (by omega)]; rfl, by show (o ++ [_]).length = j + 1; rw [List.length_append, ho.1]; rfl, fun c hc => ?_⟩
    show (o ++ [X k j % p])[c]? = _
    by_cases e : c = j
    · subst e; rw [List.getElem?_append_right (by rw [ho.1]; omega), ho.1, Nat.sub_self]; rfl
    · rw [List.getElem?_append_left (by rw [ho.1]; omega), ho.2 c (by omega)]
  · rw [ret_bind, ret_app]
    refine ⟨by rw [h.1]; simp only [List.length_cons, List.length_nil]; omega, _, rfl, by omega, by show wa .i64 (k : Int) 1 = _; rw [wa_i (by omega) (by omega)]; rfl, by show (R ++ [_]).length = k + 1; rw [List.length_append, h.1]; rfl, fun r hr => ?_⟩
    show ∃ l, (R ++ [o])[r]? = some l ∧ _
    by_cases e : r = k
    · subst e; exact ⟨o, by rw [List.getElem?_append_right (by rw [h.1]; omega), h.1, Nat.sub_self]; rfl, ho⟩
    · obtain ⟨l, h1, h2⟩ := h.2 r (by omega)
      exact ⟨l, by rw [List.getElem?_append_left (by rw [h.1]; omega)]; exact h1, h2⟩
/-- the reduced matrix -/
def Rd (p : Int) (X : Mx) : Mx := fun r c => X r c % p
theorem ech_ex (hP : PP p) (hn : 0 < n) (hn2 : n ≤ 200) (hw : w ≤ 201) (hT : Tb T n w X) : ∃ R o, modular_reduced T p = some R ∧ Tb R n w (Rd p X) ∧ modular_echelon R p = some o ∧ ∃ k B col, Ech p n w (Rd p X) o k B col w := by
  have hp := hP.two
  obtain ⟨R, h1, h2⟩ := reduced_ok (p := p) (by omega) hP.max (by omega) (by omega) hT
  obtain ⟨o, h3, h4⟩ := echelon_ok hP hn (by omega) (by omega) h2 fun r j _ _ => mod_rng _ (by omega)
  exact ⟨R, o, h1, h2, h3, h4⟩
theorem rank_eq (hP : PP p) (hn : 0 < n) (hn2 : n ≤ 200) (hw : w ≤ 200) (hT : Tb T n w X) {R : List (List Int)} {o : List (List Int) × List Int × Int} (hR : modular_reduced T p = some R) (hE : modular_echelon R p = some o) : modular_Rank T p = some ((o.2.1.length : Int), 0) := by
  unfold modular_Rank
  rw [check_ok hP hn hn2 hw hT, obs, if_pos rfl, hR, obs, hE, obs]
end
end Km
/- Kernel vectors and solutions modulo a prime, and the product that checks them. -/
namespace Km
open Sx Go M Vc Dt
section
variable {p : Int} {n w : Nat} {T : List (List Int)} {X : Mx}
/-- what Kernel returns: nothing, and then all columns have pivots; or a vector that is mapped to zero -/
theorem kernel_ok (hP : PP p) (hn : 0 < n) (hn2 : n ≤ 200) (hw0 : 0 < w) (hw : w ≤ 200) (hT : Tb T n w X) {R : List (List Int)} {o : List (List Int) × List Int × Int} {k : Nat} {B : Mx} {col : Nat → Nat} (hR : modular_reduced T p = some R) (hEo : modular_echelon R p = some o) (hE : Ech p n w (Rd p X) o k B col w) :
    Ret (modular_Kernel T p) (fun r => r.2 = 0 ∧ ((r.1 = [] ∧ k = w) ∨ (k < w ∧ ∃ f : Nat → Int, Ln r.1 w f ∧ (∀ c, c < w → 0 ≤ f c ∧ f c < p) ∧ Nl p n w B f ∧ ∃ c, c < w ∧ f c = 1))) := by
  have hp := hP.two
  have hm := hP.max
  unfold modular_Kernel
  rw [check_ok hP hn hn2 hw hT, obs, if_pos rfl, hR, obs, hEo, obs]
  obtain ⟨e1, e2, e3, e4, e5, e6⟩ := id hE
  have hkw := e2.kc
  rw [columns_ok hn hT, obs, ret_bind]
  refine (ret_loop (Post := fun fr => ∃ m : Nat, fr = (m : Int) ∧ m ≤ k ∧ (∀ s, s < m → col s = s) ∧ (m < k → col m ≠ m)) k (fun m (fr : Int) => fr = (m : Int) ∧ m ≤ k ∧ ∀ s, s < m → col s = s) ⟨rfl, by omega, fun s h => absurd h (by omega)⟩ ?_ (by omega)).mono ?_
  · rintro m _ hmk ⟨rfl, h1, h2⟩
    unfold modular_Kernel_l3
    rw [ret_bind, ret_if, e4.1]
    refine ⟨fun hlt => ?_, fun hge => ?_⟩
    · rw [ret_bind, ret_get]
      refine ⟨by omega, by rw [e4.1]; omega, fun x hx => ?_⟩
      rw [Int.toNat_natCast, e4.2 m (by omega)] at hx
      obtain rfl := Option.some.inj hx
      rw [ret_some, ret_if]
      refine ⟨fun he => ?_, fun he => ?_⟩
      · have he : (col m : Int) = (m : Int) := by simpa using he
        have he : col m = m := by omega
        exact ⟨_, rfl, by omega, by rw [wa_i (by omega) (by omega)]; rfl, by omega, fun s hs => by
          by_cases e : s = m
          · rw [e]; exact he
          · exact h2 s (by omega)⟩
      · exact ⟨_, rfl, m, rfl, h1, h2, fun _ => by have h : ¬ (col m : Int) = (m : Int) := (by simpa using he); omega⟩
    · rw [ret_some, if_neg (by simp)]
      exact ⟨_, rfl, m, rfl, h1, h2, fun h => absurd h (by omega)⟩
  · rintro _ ⟨fr, rfl, h1, h2, h3⟩
    rw [ret_if]
    refine ⟨fun he => ⟨_, rfl, rfl, .inl ⟨rfl, by omega⟩⟩, fun he => ?_⟩
    have hfr : fr < w := by omega
    have hno := e2.first (fr := fr) (fun s hs => ⟨by omega, h2 s hs⟩) h3
    have hk : k < w := by
      rcases Nat.lt_or_ge k w with h | h
      · exact h
      · exfalso
        have hkw : k = w := by omega
        have := e2.ge fr (by omega)
        by_cases hc : fr < k
        · -- all w columns are pivots: col s = s
          have h4 : ∀ d, fr + d < k → col fr + d ≤ col (fr + d) := by
            intro d
            induction d with
            | zero => intro _; exact Nat.le_refl _
            | succ d ih => intro hd; have := e2.asc (fr + d) (fr + (d + 1)) (by omega) (by omega); have := ih (by omega); omega
          have h5 := h4 (k - 1 - fr) (by omega)
          have h6 := e2.lt (k - 1) (by omega)
          rw [show fr + (k - 1 - fr) = k - 1 by omega] at h5
          exact h3 hc (by omega)
        · omega
    rw [ret_bind, ret_mkL]
    refine ⟨by omega, by omega, ?_⟩
    rw [Int.toNat_natCast, ret_bind, ret_set, Int.toNat_natCast]
    refine ⟨by omega, by rw [List.length_replicate]; omega, ?_⟩
    have hz : Ln (List.replicate w (0 : Int)) w (fun _ => 0) := ⟨List.length_replicate .., fun c hc => by rw [List.getElem?_replicate, if_pos hc]⟩
    have hz1 := hz.set hfr 1
    rw [ret_bind]
    -- the pivots' places are filled, one by one
    refine (ret_loop (Post := fun v => ∃ f : Nat → Int, Ln v w f ∧ (∀ c, c < w → 0 ≤ f c ∧ f c < p) ∧ f fr = 1 ∧ (∀ s, s < k → f (col s) = (- B s fr) % p) ∧ ∀ j, j < w → j ≠ fr → (∀ s, s < k → col s ≠ j) → f j = 0) k (fun m (s : List Int × Int) => s.2 = (m : Int) ∧ ∃ f : Nat → Int, Ln s.1 w f ∧ (∀ c, c < w → 0 ≤ f c ∧ f c < p) ∧ f fr = 1 ∧ (∀ s, s < m → f (col s) = (- B s fr) % p) ∧ ∀ j, j < w → j ≠ fr → (∀ s, s < m → col s ≠ j) → f j = 0) ⟨rfl, _, hz1, fun c hc => by split <;> omega, by rw [if_pos rfl], fun s h => absurd h (by omega), fun j _ hj _ => by rw [if_neg hj]⟩ ?_ (by omega)).mono ?_
    · rintro m ⟨v, _⟩ hmk ⟨rfl, f, f1, f2, f3, f4, f5⟩
      unfold modular_Kernel_l4
      simp only at f1 ⊢
      rw [ret_if, e4.1]
      refine ⟨fun hlt => ?_, fun hge => ⟨_, rfl, f, f1, f2, f3, by have : m = k := (by omega); exact this ▸ f4, by have : m = k := (by omega); exact this ▸ f5⟩⟩
      have hmk : m < k := by omega
      have hcm : col m < w := e2.lt m hmk
      rw [ret_bind, ret_get]
      refine ⟨by omega, by rw [e4.1]; omega, fun x hx => ?_⟩
      rw [Int.toNat_natCast, e4.2 m (by omega)] at hx
      obtain rfl := Option.some.inj hx
      have hmn : m < n := by have := e2.kn; omega
      rw [ret_bind]; refine e1.get hmn fun l _ hl => ?_
      rw [ret_bind]; refine hl.get hfr ?_
      have hb := e2.rng m fr hmn hfr
      have hneg : wneg .i64 (B m fr) = - B m fr := IntWalk.i64_in _ ⟨by omega, by omega⟩
      rw [hneg, mod_ok (by omega) hm, obs, ret_bind, ret_set, Int.toNat_natCast]
      refine ⟨by omega, by rw [f1.1]; omega, _, rfl, by omega, by show wa .i64 (m : Int) 1 = _; rw [wa_i (by omega) (by omega)]; rfl, _, f1.set hcm _, fun c hc => ?_, ?_, fun s hs => ?_, fun j hj hj2 hj3 => ?_⟩
      · split
        · exact mod_rng _ (by omega)
        · exact f2 c hc
      · rw [if_neg (Ne.symm (hno m hmk))]; exact f3
      · by_cases e : s = m
        · rw [e, if_pos rfl]
        · have := e2.asc s m (by omega) hmk
          rw [if_neg (by omega)]; exact f4 s (by omega)
      · rw [if_neg (Ne.symm (hj3 m (by omega)))]; exact f5 j hj hj2 fun s hs => hj3 s (by omega)
    · rintro v ⟨f, f1, f2, f3, f4, f5⟩
      refine ⟨_, rfl, rfl, .inr ⟨hk, f, f1, f2, ?_, fr, hfr, f3⟩⟩
      exact e2.kernel hfr hno f3 (fun s hs => by rw [f4 s hs]; exact Cg.mod p _) f5
end
end Km
/- The program's Solve. -/
namespace Km
open Sx Go M Vc Dt
section
variable {p : Int} {n : Nat} {T : List (List Int)} {X : Mx} {g : Nat → Int}
theorem square_ok (hP : PP p) (hn : 0 < n) (hn2 : n ≤ 200) (hT : Tb T n n X) : modular_square T p = some 0 := by
  unfold modular_square
  rw [check_ok hP hn hn2 hn2 hT, obs, if_pos rfl, columns_ok hn hT, obs, obs, hT.1, if_neg (by simp)]
/-- the matrix with the right sides behind it -/
def Wd (p : Int) (n : Nat) (X : Mx) (g : Nat → Int) : Mx := fun r c => if c < n then X r c % p else g r
theorem Wd.sm (r : Nat) (v : Nat → Int) : Dt.sm (n + 1) (fun c => Wd p n X g r c * v c) = Dt.sm n (fun c => Rd p X r c * v c) + g r * v n := by
  rw [Dt.sm]
  congr 1
  · exact sm_congr fun c hc => by unfold Wd Rd; rw [if_pos hc]
  · unfold Wd; rw [if_neg (by omega)]
theorem wide_ok (hp : 0 < p) (hm : p ≤ 2147483647) (hn2 : n ≤ 200) {R : List (List Int)} (hR : Tb R n n (Rd p X)) {b : List Int} {h : Nat → Int} (hb : Ln b n h) : Ret (loop (modular_Solve_l1 b p) (R, 0)) (fun R' => Tb R' n (n + 1) (Wd p n X (fun r => h r % p))) := by
  generalize hgg : (fun r => h r % p) = g
  refine (ret_loop (Post := fun R' : List (List Int) => R'.length = n ∧ ∀ r, r < n → ∃ l, R'[r]? = some l ∧ Ln l (n + 1) (Wd p n X g r)) n (fun k (s : List (List Int) × Int) => s.2 = (k : Int) ∧ s.1.length = n ∧ ∀ r, r < n → ∃ l, s.1[r]? = some l ∧ (if r < k then Ln l (n + 1) (Wd p n X g r) else Ln l n (Rd p X r))) ⟨rfl, hR.1, fun r hr => by obtain ⟨l, h1, h2⟩ := hR.2 r hr; exact ⟨l, h1, by rw [if_neg (by omega)]; exact h2⟩⟩ ?_ (by omega)).mono fun R' h => h
  rintro k ⟨R', _⟩ hk ⟨rfl, h1, h2⟩
  unfold modular_Solve_l1
  simp only at h1 h2 ⊢
  rw [ret_if, hb.1]
  refine ⟨fun hlt => ?_, fun _ => ⟨_, rfl, h1, fun r hr => by obtain ⟨l, h3, h4⟩ := h2 r hr; exact ⟨l, h3, by rw [if_pos (by omega)] at h4; exact h4⟩⟩⟩
  have hkn : k < n := by omega
  obtain ⟨l, h3, h4⟩ := h2 k hkn
  rw [if_neg (by omega)] at h4
  rw [ret_bind]; refine hb.get hkn ?_
  rw [ret_bind, ret_get]
  refine ⟨by omega, by rw [h1]; omega, fun x hx => ?_⟩
  rw [Int.toNat_natCast, h3] at hx
  obtain rfl := Option.some.inj hx
  rw [mod_ok hp hm, obs, ret_bind, ret_app]
  refine ⟨by rw [h4.1]; simp only [List.length_cons, List.length_nil]; omega, ?_⟩
  rw [ret_bind, ret_set, Int.toNat_natCast]
  have hgk : g k = h k % p := by rw [← hgg]
  refine ⟨by omega, by rw [h1]; omega, _, rfl, by omega, by show wa .i64 (k : Int) 1 = _; rw [wa_i (by omega) (by omega)]; rfl, by show (R'.set k _).length = n; rw [List.length_set, h1], fun r hr => ?_⟩
  show ∃ l', (R'.set k (l ++ [h k % p]))[r]? = some l' ∧ _
  rw [List.getElem?_set]
  by_cases e : k = r
  · subst e
    rw [if_pos rfl, if_pos (by rw [h1]; exact hkn)]
    refine ⟨_, rfl, ?_⟩
    rw [if_pos (by omega)]
    refine ⟨by rw [List.length_append, h4.1]; rfl, fun c hc => ?_⟩
    unfold Wd
    by_cases e2 : c < n
    · rw [List.getElem?_append_left (by rw [h4.1]; exact e2), if_pos e2, h4.2 c e2]; rfl
    · obtain rfl : c = n := by omega
      rw [List.getElem?_append_right (by rw [h4.1]; omega), h4.1, Nat.sub_self, if_neg (by omega), hgk]; rfl
  · rw [if_neg e]
    obtain ⟨l', h5, h6⟩ := h2 r hr
    refine ⟨l', h5, ?_⟩
    by_cases e2 : r < k
    · rw [if_pos e2] at h6; rw [if_pos (by omega)]; exact h6
    · rw [if_neg e2] at h6; rw [if_neg (by omega)]; exact h6
/-- what Solve returns -/
theorem solve_ok (hP : PP p) (hn : 0 < n) (hn2 : n ≤ 200) (hT : Tb T n n X) {b : List Int} {h : Nat → Int} (hb : Ln b n h) (hgh : ∀ r, g r = h r % p) {R : List (List Int)} {o : List (List Int) × List Int × Int} {k0 : Nat} {B0 : Mx} {col0 : Nat → Nat} (hR : modular_reduced T p = some R) (hRT : Tb R n n (Rd p X)) (hE0 : Ech p n n (Rd p X) o k0 B0 col0 n) :
    Ret (modular_Solve T b p) (fun r => (k0 < n → r.1 = [] ∧ r.2 = 9) ∧ (k0 = n → r.2 = 0 ∧ ∃ (k : Nat) (B : Mx) (col : Nat → Nat), Rre p n (n + 1) B col k (n + 1) ∧ Rq p n (n + 1) (Wd p n X g) B ∧ Ln r.1 n (fun i => B i n) ∧ (∀ c, c < n → 0 ≤ B c n ∧ B c n < p) ∧ ∀ r, r < n → Cg p (Dt.sm n (fun c => Rd p X r c * B c n)) (g r))) := by
  have hp := hP.two
  have hm := hP.max
  unfold modular_Solve
  rw [square_ok hP hn hn2 hT, obs, if_pos rfl, hb.1, hT.1, if_pos rfl, hR, obs, ret_bind]
  refine (wide_ok (by omega) hm hn2 hRT hb).mono fun R' hR' => ?_
  have hg : ∀ c, c < n → 0 ≤ g c ∧ g c < p := fun c _ => by rw [hgh]; exact mod_rng _ (by omega)
  rw [show (fun r => h r % p) = g from funext fun r => (hgh r).symm] at hR'
  rw [ret_bind]
  have hrng : ∀ r j, r < n → j < n + 1 → 0 ≤ Wd p n X g r j ∧ Wd p n X g r j < p := by
    intro r j hr hj
    unfold Wd
    split
    · exact mod_rng _ (by omega)
    · exact hg r hr
  refine (echelon_ok hP hn (by omega) (by omega) hR' hrng).mono fun e he => ?_
  obtain ⟨k, B, col, e1, e2, e3, e4, _, _⟩ := he
  have hkn := e2.kn
  -- the two matrices' kernels
  have low : ∀ v : Nat → Int, v n = 0 → (Nl p n (n + 1) B v ↔ Nl p n n (Rd p X) v) := by
    intro v hv
    rw [← e3 v]
    constructor
    · intro h r hr; have := h r hr; rw [Wd.sm, hv, Int.mul_zero, Int.add_zero] at this; exact this
    · intro h r hr; rw [Wd.sm, hv, Int.mul_zero, Int.add_zero]; exact h r hr
  have e2' := hE0.2.1
  have hone : ¬ Cg p 1 0 := by rw [Cg.zero, Int.emod_eq_of_lt (by omega) (by omega)]; omega
  -- all pivots stand in their own places exactly if the rank is full
  have sing : k0 < n → ¬ (k = n ∧ ∀ s, s < n → col s = s) := by
    rintro hk0 ⟨rfl, hc⟩
    obtain ⟨fr, hf1, hf2⟩ : ∃ fr, fr < k ∧ ∀ s, s < k0 → col0 s ≠ fr := by
      refine Classical.byContradiction fun hno => ?_
      have hall : ∀ fr, fr < k → ∃ s, s < k0 ∧ col0 s = fr := fun fr hfr => Classical.byContradiction fun h => hno ⟨fr, hfr, fun s hs he => h ⟨s, hs, he⟩⟩
      have hsub : ∀ fr, fr < k → fr ≤ k0 - 1 ∨ True := fun _ _ => .inr trivial
      -- col0 is ascending: the s-th of its values is at least s; were all hit, s would be at least col0 s
      have hge : ∀ s, s < k0 → col0 s ≤ s := by
        intro s
        induction s with
        | zero =>
          intro h
          obtain ⟨t, h1, h2⟩ := hall 0 (by omega)
          rcases Nat.eq_zero_or_pos t with e | e
          · subst e; omega
          · have := e2'.asc 0 t e h1; omega
        | succ s ih =>
          intro h
          have h0 := ih (by omega)
          obtain ⟨t, h1, h2⟩ := hall (s + 1) (by omega)
          rcases Nat.lt_or_ge (s + 1) t with h3 | h3
          · have := e2'.asc (s + 1) t h3 h1; omega
          · rcases Nat.lt_or_ge t (s + 1) with h4 | h4
            · rcases Nat.lt_or_ge t s with h5 | h5
              · have := e2'.asc t s h5 (by omega); omega
              · obtain rfl : t = s := by omega
                omega
            · obtain rfl : t = s + 1 := by omega
              omega
      obtain ⟨t, h1, h2⟩ := hall k0 hk0
      have := hge t h1
      omega
    let v : Nat → Int := fun j => if j = fr then 1 else if j < k then (Classical.epsilon fun z : Int => (∃ s, s < k0 ∧ col0 s = j ∧ z = - B0 s fr) ∨ ((∀ s, s < k0 → col0 s ≠ j) ∧ z = 0)) else 0
    have hv1 : v fr = 1 := if_pos rfl
    have hvn : v k = 0 := by show (if k = fr then _ else _) = _; rw [if_neg (by omega), if_neg (by omega)]
    have hve : ∀ j, j < k → j ≠ fr → ((∃ s, s < k0 ∧ col0 s = j ∧ v j = - B0 s fr) ∨ ((∀ s, s < k0 → col0 s ≠ j) ∧ v j = 0)) := by
      intro j hj hne
      have : v j = Classical.epsilon fun z : Int => (∃ s, s < k0 ∧ col0 s = j ∧ z = - B0 s fr) ∨ ((∀ s, s < k0 → col0 s ≠ j) ∧ z = 0) := by
        show (if j = fr then _ else _) = _; rw [if_neg hne, if_pos hj]
      rw [this]
      refine Classical.epsilon_spec (p := fun z : Int => (∃ s, s < k0 ∧ col0 s = j ∧ z = - B0 s fr) ∨ ((∀ s, s < k0 → col0 s ≠ j) ∧ z = 0)) ?_
      by_cases hs : ∃ s, s < k0 ∧ col0 s = j
      · obtain ⟨s, h1, h2⟩ := hs; exact ⟨_, .inl ⟨s, h1, h2, rfl⟩⟩
      · exact ⟨0, .inr ⟨fun s h1 h2 => hs ⟨s, h1, h2⟩, rfl⟩⟩
    have hinj : ∀ s t, s < k0 → t < k0 → col0 s = col0 t → s = t := by
      intro s t hs ht he
      rcases Nat.lt_trichotomy s t with h | h | h
      · have := e2'.asc s t h ht; omega
      · exact h
      · have := e2'.asc t s h hs; omega
    have hN := e2'.kernel (fr := fr) hf1 hf2 hv1 (fun s hs => by
      rcases hve (col0 s) (e2'.lt s hs) (hf2 s hs) with ⟨t, h1, h2, h3⟩ | ⟨h1, _⟩
      · obtain rfl := hinj t s h1 hs h2
        rw [h3]; exact .refl _ _
      · exact absurd rfl (h1 s hs)) (fun j hj hjf hno => by
      rcases hve j hj hjf with ⟨t, h1, h2, h3⟩ | ⟨_, h1⟩
      · exact absurd h2 (hno t h1)
      · exact h1)
    have hN2 : Nl p k k (Rd p X) v := (hE0.2.2.1 v).2 hN
    have hB := (low v hvn).2 hN2 fr hf1
    have e : Dt.sm (k + 1) (fun c => B fr c * v c) = Dt.sm k (fun c => if c = fr then v c else 0) + B fr k * v k := by
      rw [Dt.sm]
      congr 1
      refine sm_congr fun c hc' => ?_
      have := e2.unit c fr hc' hf1
      rw [hc c hc'] at this
      rw [this]
      by_cases hcr : c = fr
      · rw [if_pos hcr, if_pos hcr.symm, Int.one_mul]
      · rw [if_neg hcr, if_neg (fun e => hcr e.symm), Int.zero_mul]
    rw [e, sm_one (f := v) hf1, hv1, hvn, Int.mul_zero, Int.add_zero] at hB
    exact hone hB
  have full : k0 = n → k = n ∧ ∀ s, s < n → col s = s := by
    intro hk0
    refine Classical.byContradiction fun hno => ?_
    obtain ⟨fr, hfr, h1, h2⟩ : ∃ fr, fr < n ∧ (∀ s, s < fr → s < k ∧ col s = s) ∧ (fr < k → col fr ≠ fr) := by
      refine Classical.byContradiction fun hno2 => hno ?_
      have hall : ∀ m, m ≤ n → ∀ s, s < m → s < k ∧ col s = s := by
        intro m
        induction m with
        | zero => intro _ s h; omega
        | succ m ih =>
          intro hm s hs
          rcases Nat.lt_or_ge s m with h | h
          · exact ih (by omega) s h
          · obtain rfl : s = m := by omega
            refine Classical.byContradiction fun hc => hno2 ⟨s, by omega, ih (by omega), fun h1 h2 => hc ⟨h1, h2⟩⟩
      have := hall n (Nat.le_refl n)
      refine ⟨?_, fun s hs => (this s hs).2⟩
      have := (this (n - 1) (by omega)).1
      omega
    have hno3 := e2.first h1 h2
    have hinj : ∀ s t, s < k → t < k → col s = col t → s = t := by
      intro s t hs ht he
      rcases Nat.lt_trichotomy s t with h | h | h
      · have := e2.asc s t h ht; omega
      · exact h
      · have := e2.asc t s h hs; omega
    let v : Nat → Int := fun j => if j = fr then 1 else (Classical.epsilon fun z : Int => (∃ s, s < k ∧ col s = j ∧ z = - B s fr) ∨ ((∀ s, s < k → col s ≠ j) ∧ z = 0))
    have hv1 : v fr = 1 := if_pos rfl
    have hve : ∀ j, j ≠ fr → ((∃ s, s < k ∧ col s = j ∧ v j = - B s fr) ∨ ((∀ s, s < k → col s ≠ j) ∧ v j = 0)) := by
      intro j hne
      have : v j = Classical.epsilon fun z : Int => (∃ s, s < k ∧ col s = j ∧ z = - B s fr) ∨ ((∀ s, s < k → col s ≠ j) ∧ z = 0) := by
        show (if j = fr then _ else _) = _; rw [if_neg hne]
      rw [this]
      refine Classical.epsilon_spec (p := fun z : Int => (∃ s, s < k ∧ col s = j ∧ z = - B s fr) ∨ ((∀ s, s < k → col s ≠ j) ∧ z = 0)) ?_
      by_cases hs : ∃ s, s < k ∧ col s = j
      · obtain ⟨s, h1, h2⟩ := hs; exact ⟨_, .inl ⟨s, h1, h2, rfl⟩⟩
      · exact ⟨0, .inr ⟨fun s h1 h2 => hs ⟨s, h1, h2⟩, rfl⟩⟩
    have hN := e2.kernel (fr := fr) (by omega) hno3 hv1 (fun s hs => by
      rcases hve (col s) (hno3 s hs) with ⟨t, h1, h2, h3⟩ | ⟨h1, _⟩
      · obtain rfl := hinj t s h1 hs h2
        rw [h3]; exact .refl _ _
      · exact absurd rfl (h1 s hs)) (fun j hj hjf hno => by
      rcases hve j hjf with ⟨t, h1, h2, h3⟩ | ⟨_, h1⟩
      · exact absurd h2 (hno t h1)
      · exact h1)
    have hvn : v n = 0 := by
      rcases hve n (by omega) with ⟨t, h1, h2, h3⟩ | ⟨_, h1⟩
      · rw [h3, e2.lead t fr h1 (by omega)]; rfl
      · exact h1
    have hN2 := (low v hvn).1 hN
    subst hk0
    have := Rre.only hE0.2.1 ((hE0.2.2.1 v).1 hN2) fr hfr
    rw [hv1] at this
    exact hone this
  rw [ret_bind]
  refine (ret_loop (Post := fun r => (r = .inr () ∧ ¬ (k = n ∧ ∀ s, s < n → col s = s)) ∨ ∃ l, r = .inl l ∧ (k = n ∧ ∀ s, s < n → col s = s) ∧ Ln l n (fun i => B i n)) n (fun m (s : List Int × Int) => s.2 = (m : Int) ∧ m ≤ k ∧ (∀ s, s < m → col s = s) ∧ Ln s.1 m (fun i => B i n)) ⟨rfl, by omega, fun s h => absurd h (by omega), rfl, fun c h => absurd h (by omega)⟩ ?_ (by omega)).mono ?_
  · rintro m ⟨l, _⟩ hmn ⟨rfl, h1, h2, h3⟩
    unfold modular_Solve_l4
    simp only at h3 ⊢
    rw [ret_if, hT.1]
    refine ⟨fun hlt => ?_, fun hge => ⟨_, rfl, .inr ⟨l, rfl, ⟨by omega, fun s hs => h2 s (by omega)⟩, by have e : m = n := (by omega); exact e ▸ h3⟩⟩⟩
    have hmn : m < n := by omega
    rw [ret_bind, ret_if, e4.1]
    refine ⟨fun hle => ?_, fun hle => ?_⟩
    · rw [ret_some, if_pos rfl]
      exact ⟨_, rfl, .inl ⟨rfl, by rintro ⟨h, _⟩; omega⟩⟩
    · rw [ret_bind, ret_get]
      refine ⟨by omega, by rw [e4.1]; omega, fun x hx => ?_⟩
      rw [Int.toNat_natCast, e4.2 m (by omega)] at hx
      obtain rfl := Option.some.inj hx
      rw [ret_some, ret_if]
      refine ⟨fun hne => ?_, fun he => ?_⟩
      · have : ¬ (col m : Int) = (m : Int) := by simpa using hne
        exact ⟨_, rfl, .inl ⟨rfl, by rintro ⟨_, h⟩; have := h m hmn; omega⟩⟩
      · have he : (col m : Int) = (m : Int) := by simpa using he
        rw [ret_bind]; refine e1.get hmn fun l' _ hl' => ?_
        rw [ret_bind]; refine hl'.get (show n < n + 1 by omega) ?_
        rw [ret_bind, ret_app]
        refine ⟨by rw [h3.1]; simp only [List.length_cons, List.length_nil]; omega, _, rfl, by omega, by show wa .i64 (m : Int) 1 = _; rw [wa_i (by omega) (by omega)]; rfl, by omega, fun s hs => ?_, by show (l ++ [_]).length = m + 1; rw [List.length_append, h3.1]; rfl, fun c hc => ?_⟩
        · by_cases e : s = m
          · rw [e]; omega
          · exact h2 s (by omega)
        · show (l ++ [B m n])[c]? = _
          by_cases e : c = m
          · subst e; rw [List.getElem?_append_right (by rw [h3.1]; omega), h3.1, Nat.sub_self]; rfl
          · rw [List.getElem?_append_left (by rw [h3.1]; omega), h3.2 c (by omega)]
  · rintro _ (⟨rfl, h⟩ | ⟨l, rfl, h, hl⟩)
    · exact ⟨_, rfl, fun _ => ⟨rfl, rfl⟩, fun hk => absurd (full hk) h⟩
    · refine ⟨_, rfl, fun hk => absurd h (sing hk), fun _ => ⟨rfl, k, B, col, e2, e3, hl, fun c hc => e2.rng c n hc (by omega), fun r hr => ?_⟩⟩
      obtain ⟨rfl, hc⟩ := h
      have hs := e2.solve hc (v := fun j => if j < k then B j k else -1) (fun j hj => if_pos hj) (if_neg (by omega))
      have := (e3 _).2 hs r hr
      rw [Wd.sm, if_neg (by omega)] at this
      have e5 : Dt.sm k (fun c => Rd p X r c * if c < k then B c k else -1) = Dt.sm k (fun c => Rd p X r c * B c k) := sm_congr fun c hc => by rw [if_pos hc]
      rw [e5] at this
      have h7 := this.add (Cg.refl p (g r))
      rw [Int.zero_add] at h7
      have e6 : Dt.sm k (fun c => Rd p X r c * B c k) + g r * -1 + g r = Dt.sm k (fun c => Rd p X r c * B c k) := by omega
      rwa [e6] at h7
end
end Km
/- The paper's elimination modulo a prime. -/
namespace Km
open Sx Go M Vc Dt
section
variable {p : Int} {n w : Nat}
theorem ref_raise : sparseref07_Power_l3 = modular_raise_l3 := rfl
theorem ref_inv {a : Int} (hP : PP p) (ha : 0 ≤ a ∧ a < p) : sparseref07_Inverse a p = modular_inverse a p := by
  unfold sparseref07_Inverse sparseref07_Power modular_inverse modular_raise
  have := hP.two
  rw [ref_raise, ref_mod, mod_ok (by omega) hP.max, obs, Int.emod_eq_of_lt ha.1 ha.2]
theorem scaleR_ok (hp : 0 < p) (hm : p ≤ 2147483647) {T : List (List Int)} {A : Mx} (hT : Tb T n w A) {k : Nat} (hk : k < n) (hr : ∀ c, c < w → 0 ≤ A k c ∧ A k c < p) {f : Int} (hf : 0 ≤ f ∧ f < p) {piv : List Int} (h2 : piv.length = k) (hw : w ≤ 1000) :
    Ret (loop (sparseref07_Echelon_l164 piv f p) (T, 0)) (fun T' => Tb T' n w (up A k (fun j => A k j * f % p))) := by
  refine ret_loop w (fun m (s : List (List Int) × Int) => s.2 = (m : Int) ∧ Tb s.1 n w (up A k (fun j => if j < m then A k j * f % p else A k j))) ⟨rfl, hT.congr fun r c hr hc => ?_⟩ ?_ (by omega)
  · by_cases e : r = k
    · subst e; rw [up_in, if_neg (by omega)]
    · rw [up_out e]
  · rintro m ⟨T', _⟩ hmw ⟨rfl, h⟩
    unfold sparseref07_Echelon_l164
    simp only at h ⊢
    rw [ret_bind, h2]; refine h.get hk fun l0 _ hl0 => ?_
    rw [ret_if, hl0.1]
    refine ⟨fun hlt => ?_, fun hge => ⟨_, rfl, ?_⟩⟩
    · have hmw : m < w := by omega
      rw [ret_bind]; refine h.get hk fun l hl1 hl2 => ?_
      rw [ret_bind]; refine h.get hk fun l' hl1' hl2' => ?_
      obtain rfl := Option.some.inj (hl1.symm.trans hl1')
      rw [ret_bind]; refine hl2.get hmw ?_
      rw [up_in, if_neg (by omega), wmr hm (hr m hmw) hf, obs, ret_bind, ret_set]
      refine ⟨by omega, by rw [hl2.1]; omega, ?_⟩
      rw [ret_bind, ret_set]
      refine ⟨by omega, by rw [h.1]; omega, _, rfl, ?_⟩
      refine ⟨by omega, by show wa .i64 (m : Int) 1 = _; rw [wa_i (by omega) (by omega)]; omega, ?_⟩
      show Tb (T'.set (k : Int).toNat (l.set (m : Int).toNat _)) n w _
      rw [Int.toNat_natCast, Int.toNat_natCast]
      refine (h.set hk (hl2.set hmw _)).congr fun r c hr hc => ?_
      by_cases e : r = k
      · subst e
        rw [up_in, up_in]
        by_cases e2 : c = m
        · subst e2; rw [if_pos rfl, up_in, if_pos (by omega)]
        · rw [if_neg e2, up_in]
          by_cases e3 : c < m
          · rw [if_pos e3, if_pos (by omega)]
          · rw [if_neg e3, if_neg (by omega)]
      · rw [up_out e, up_out e, up_out e]
    · show Tb T' n w _
      refine h.congr fun r c hr hc => ?_
      by_cases e : r = k
      · subst e; rw [up_in, up_in, if_pos (by omega)]
      · rw [up_out e, up_out e]
/-- one row is cleared, entry by entry -/
theorem rowR_ok (hp : 0 < p) (hm : p ≤ 2147483647) {T : List (List Int)} {A : Mx} (hT : Tb T n w A) {k i : Nat} (hk : k < n) (hi : i < n) (hr : ∀ r j, r < n → j < w → 0 ≤ A r j ∧ A r j < p) {x : Int} (hx : 0 ≤ x ∧ x < p) {piv : List Int} (h2 : piv.length = k) (hw : w ≤ 1000) :
    Ret (loop (sparseref07_Echelon_l176 (i : Int) piv x p) (T, 0)) (fun T' => Tb T' n w (if i = k then A else up A i (fun j => (A i j - x * A k j) % p))) := by
  refine ret_loop w (fun m (s : List (List Int) × Int) => s.2 = (m : Int) ∧ Tb s.1 n w (if i = k then A else up A i (fun j => if j < m then (A i j - x * A k j) % p else A i j))) ⟨rfl, hT.congr fun r c hr hc => ?_⟩ ?_ (by omega)
  · split
    · rfl
    · by_cases e : r = i
      · subst e; rw [up_in, if_neg (by omega)]
      · rw [up_out e]
  · rintro m ⟨T', _⟩ hmw ⟨rfl, h⟩
    unfold sparseref07_Echelon_l176
    simp only at h ⊢
    rw [ret_bind, h2]; refine h.get hi fun l0 _ hl0 => ?_
    rw [ret_if, hl0.1]
    refine ⟨fun hc => ?_, fun hc => ⟨_, rfl, ?_⟩⟩
    · simp only [Bool.and_eq_true, decide_eq_true_eq, Bool.not_eq_true', decide_eq_false_iff_not] at hc
      have hmw : m < w := by omega
      have hik : i ≠ k := by omega
      rw [if_neg hik] at h
      rw [ret_bind]; refine h.get hi fun l hl1 hl2 => ?_
      rw [ret_bind]; refine h.get hi fun l' hl1' hl2' => ?_
      obtain rfl := Option.some.inj (hl1.symm.trans hl1')
      rw [ret_bind]; refine hl2.get hmw ?_
      rw [ret_bind]; refine h.get hk fun lk _ hlk => ?_
      rw [ret_bind]; refine hlk.get hmw ?_
      rw [up_in, if_neg (by omega), up_out (Ne.symm hik), wmr hm hx (hr k m hk hmw), obs]
      have h5 := mod_rng (x * A k m) hp
      have h6 := hr i m hi hmw
      rw [ws_i (by omega) (by omega), ref_mod, mod_ok hp hm, obs, ret_bind, ret_set]
      refine ⟨by omega, by rw [hl2.1]; omega, ?_⟩
      rw [ret_bind, ret_set]
      refine ⟨by omega, by rw [h.1]; omega, _, rfl, ?_⟩
      refine ⟨by omega, by show wa .i64 (m : Int) 1 = _; rw [wa_i (by omega) (by omega)]; omega, ?_⟩
      show Tb (T'.set (i : Int).toNat (l.set (m : Int).toNat _)) n w _
      rw [Int.toNat_natCast, Int.toNat_natCast, if_neg hik]
      refine (h.set hi (hl2.set hmw _)).congr fun r c hr hc => ?_
      by_cases e : r = i
      · subst e
        rw [up_in, up_in]
        by_cases e2 : c = m
        · subst e2; rw [if_pos rfl, up_in, if_pos (by omega), sub_mod]
        · rw [if_neg e2, up_in]
          by_cases e3 : c < m
          · rw [if_pos e3, if_pos (by omega)]
          · rw [if_neg e3, if_neg (by omega)]
      · rw [up_out e, up_out e, up_out e]
    · show Tb T' n w _
      by_cases hik : i = k
      · rw [if_pos hik] at h ⊢; exact h
      · rw [if_neg hik] at h ⊢
        simp only [Bool.and_eq_true, decide_eq_true_eq, Bool.not_eq_true', decide_eq_false_iff_not, not_and, Decidable.not_not] at hc
        refine h.congr fun r c hr hc' => ?_
        by_cases e : r = i
        · subst e
          rw [up_in, up_in, if_pos]
          refine Classical.byContradiction fun hcm => ?_
          have := hc (by omega)
          omega
        · rw [up_out e, up_out e]
theorem elimR_ok (hp : 0 < p) (hm : p ≤ 2147483647) {T : List (List Int)} {A : Mx} (hT : Tb T n w A) {k c : Nat} (hk : k < n) (hc : c < w) (hr : ∀ r j, r < n → j < w → 0 ≤ A r j ∧ A r j < p) {piv : List Int} (h2 : piv.length = k) (hw : w ≤ 1000) (hn : n ≤ 1000) :
    Ret (loop (sparseref07_Echelon_l173 (c : Int) piv p) (T, 0)) (fun T' => Tb T' n w (Em p A k c n)) := by
  refine ret_loop n (fun m (s : List (List Int) × Int) => s.2 = (m : Int) ∧ Tb s.1 n w (Em p A k c m)) ⟨rfl, hT.congr fun r j hr hc => ?_⟩ ?_ (by omega)
  · unfold Em; rw [if_neg (by omega)]
  · rintro m ⟨T', _⟩ hmw ⟨rfl, h⟩
    unfold sparseref07_Echelon_l173
    simp only at h ⊢
    rw [ret_if, h.1]
    refine ⟨fun hlt => ?_, fun hge => ⟨_, rfl, ?_⟩⟩
    · have hmn : m < n := by omega
      have nxt : wa .i64 (m : Int) 1 = ((m + 1 : Nat) : Int) := by rw [wa_i (by omega) (by omega)]; rfl
      have Emm : Em p A k c m m = A m := by funext j; unfold Em; rw [if_neg (by omega)]
      have Emk : Em p A k c m k = A k := by funext j; unfold Em; rw [if_neg (by omega)]
      have hE : ∀ r j, r < n → j < w → 0 ≤ Em p A k c m r j ∧ Em p A k c m r j < p := by
        intro r j h3 h4
        unfold Em
        split
        · exact mod_rng _ hp
        · exact hr r j h3 h4
      rw [ret_bind]; refine h.get hmn fun l hl1 hl2 => ?_
      rw [Emm] at hl2
      rw [ret_bind]; refine hl2.get hc ?_
      rw [ret_bind]
      refine (rowR_ok hp hm h hk hmn hE (hr m c hmn hc) h2 hw).mono fun T2 hT2 => ⟨_, rfl, by omega, nxt, ?_⟩
      refine hT2.congr fun r j hr' hj => ?_
      by_cases e : m = k
      · rw [if_pos e]; unfold Em
        by_cases e2 : r ≠ k ∧ r < m
        · rw [if_pos e2, if_pos (by omega)]
        · rw [if_neg e2, if_neg (by omega)]
      · rw [if_neg e, Emm, Emk]
        by_cases e3 : r = m
        · subst e3; rw [up_in]; unfold Em; rw [if_pos ⟨e, by omega⟩]
        · rw [up_out e3]; unfold Em
          by_cases e2 : r ≠ k ∧ r < m
          · rw [if_pos e2, if_pos (by omega)]
          · rw [if_neg e2, if_neg (by omega)]
    · show Tb T' n w _
      refine h.congr fun r j hr hc => ?_
      unfold Em
      by_cases e : r ≠ k ∧ r < m
      · rw [if_pos e, if_pos (by omega)]
      · rw [if_neg e, if_neg (by omega)]
theorem findR_ok {T : List (List Int)} {A : Mx} (hT : Tb T n w A) {c k : Nat} (hc : c < w) (hk : k ≤ n) (hn : n ≤ 1000) :
    Ret (loop (sparseref07_Echelon_l162 T (c : Int)) (k : Int)) (fun i => ∃ r : Nat, i = (r : Int) ∧ k ≤ r ∧ ((r = n ∧ ∀ r, k ≤ r → r < n → A r c = 0) ∨ (r < n ∧ A r c ≠ 0))) := by
  refine ret_loop (n - k) (fun m (i : Int) => i = ((k + m : Nat) : Int) ∧ ∀ r, k ≤ r → r < k + m → A r c = 0) ⟨rfl, fun r h1 h2 => absurd h1 (by omega)⟩ ?_ (by omega)
  rintro m _ hm ⟨rfl, h0⟩
  unfold sparseref07_Echelon_l162
  rw [ret_bind, ret_if, hT.1]
  refine ⟨fun hlt => ?_, fun hge => ?_⟩
  · have hkn : k + m < n := by omega
    rw [ret_bind]; refine hT.get hkn fun l _ hl => ?_
    rw [ret_bind]; refine hl.get hc ?_
    rw [ret_some, ret_if]
    refine ⟨fun hz => ?_, fun hz => ?_⟩
    · have hz : A (k + m) c = 0 := by simpa using hz
      refine ⟨_, rfl, by omega, by rw [wa_i (by omega) (by omega)]; omega, fun r h1 h2 => ?_⟩
      by_cases e : r = k + m
      · rw [e]; exact hz
      · exact h0 r h1 (by omega)
    · exact ⟨_, rfl, k + m, rfl, by omega, .inr ⟨hkn, by simpa using hz⟩⟩
  · rw [ret_some, if_neg (by simp)]
    exact ⟨_, rfl, k + m, rfl, by omega, .inl ⟨by omega, fun r h1 h2 => h0 r h1 (by omega)⟩⟩
/-- what the paper's elimination leaves -/
def EchR (p : Int) (n w : Nat) (A : Mx) (o : List (List Int) × List Int × Int) (k : Nat) (B : Mx) (col : Nat → Nat) (c : Nat) : Prop :=
  Tb o.1 n w B ∧ Rre p n w B col k c ∧ Rq p n w A B ∧ Pv o.2.1 k col ∧ (0 ≤ o.2.2 ∧ o.2.2 < p) ∧ (k = c → Cg p (det n A) (o.2.2 * det n B))
theorem colsR_ok {T : List (List Int)} {X : Mx} (hn : 0 < n) (hT : Tb T n w X) : sparseref07_cols T = some (w : Int) := columns_ok hn hT
theorem reduR_ok (hp : 0 < p) (hm : p ≤ 2147483647) (hn2 : n ≤ 1000) (hw : w ≤ 1000) {T : List (List Int)} {X : Mx} (hT : Tb T n w X) : Ret (loop (sparseref07_Echelon_l3 T p) ([], 0)) (fun R => Tb R n w (Rd p X)) := by
  refine ret_loop n (fun k (s : List (List Int) × Int) => s.2 = (k : Int) ∧ Tb s.1 k w (Rd p X)) ⟨rfl, rfl, fun r h => absurd h (by omega)⟩ ?_ (by omega)
  rintro k ⟨R, _⟩ hk ⟨rfl, h⟩
  unfold sparseref07_Echelon_l3
  simp only at h ⊢
  rw [ret_if, hT.1]
  refine ⟨fun hlt => ?_, fun _ => ⟨_, rfl, by show Tb R n w _; have : k = n := (by omega); exact this ▸ h⟩⟩
  have hkn : k < n := by omega
  rw [ret_bind]
  refine (ret_loop (Post := fun o => Ln o w (Rd p X k)) w (fun j (s : List Int × Int) => s.2 = (j : Int) ∧ Ln s.1 j (Rd p X k)) ⟨rfl, rfl, fun c h => absurd h (by omega)⟩ ?_ (by omega)).mono fun o ho => ?_
  · rintro j ⟨o, _⟩ hj ⟨rfl, ho⟩
    unfold sparseref07_Echelon_l179
    simp only at ho ⊢
    rw [ret_bind]; refine hT.get hkn fun l0 _ hl0 => ?_
    rw [ret_if, hl0.1]
    refine ⟨fun hlt => ?_, fun _ => ⟨_, rfl, by show Ln o w _; have : j = w := (by omega); exact this ▸ ho⟩⟩
    rw [ret_bind]; refine hT.get hkn fun l _ hl => ?_
    rw [ret_bind]; refine hl.get (show j < w by omega) ?_
    rw [ref_mod, mod_ok hp hm, obs, ret_bind, ret_app]
    refine ⟨by rw [ho.1]; simp only [List.length_cons, List.length_nil]; omega, _, rfl, by omega, by show wa .i64 (j : Int) 1 = _; rw [wa_i (by omega) (by omega)]; rfl, by show (o ++ [_]).length = j + 1; rw [List.length_append, ho.1]; rfl, fun c hc => ?_⟩
    show (o ++ [X k j % p])[c]? = _
    by_cases e : c = j
    · subst e; rw [List.getElem?_append_right (by rw [ho.1]; omega), ho.1, Nat.sub_self]; rfl
    · rw [List.getElem?_append_left (by rw [ho.1]; omega), ho.2 c (by omega)]
  · rw [ret_bind, ret_app]
    refine ⟨by rw [h.1]; simp only [List.length_cons, List.length_nil]; omega, _, rfl, by omega, by show wa .i64 (k : Int) 1 = _; rw [wa_i (by omega) (by omega)]; rfl, by show (R ++ [_]).length = k + 1; rw [List.length_append, h.1]; rfl, fun r hr => ?_⟩
    show ∃ l, (R ++ [o])[r]? = some l ∧ _
    by_cases e : r = k
    · subst e; exact ⟨o, by rw [List.getElem?_append_right (by rw [h.1]; omega), h.1, Nat.sub_self]; rfl, ho⟩
    · obtain ⟨l, h1, h2⟩ := h.2 r (by omega)
      exact ⟨l, by rw [List.getElem?_append_left (by rw [h.1]; omega)]; exact h1, h2⟩
end
theorem echR_ok {p : Int} (hP : PP p) {n w : Nat} (hn : 0 < n) (hn2 : n ≤ 1000) (hw : w ≤ 1000) {T : List (List Int)} {X : Mx} (hT : Tb T n w X) :
    Ret (sparseref07_Echelon T p) (fun o => ∃ k B col, EchR p n w (Rd p X) o k B col w) := by
  have hp := hP.two
  have hm := hP.max
  unfold sparseref07_Echelon
  rw [ret_bind]
  refine (reduR_ok (p := p) (by omega) hm hn2 hw hT).mono fun R hR => ?_
  have hA : ∀ r j, r < n → j < w → 0 ≤ Rd p X r j ∧ Rd p X r j < p := fun r j _ _ => mod_rng _ (by omega)
  generalize Rd p X = A at hR hA
  rw [wr_nn (by omega) (by omega), obs, Int.emod_eq_of_lt (by omega) (by omega), ret_bind]
  refine (ret_loop (Post := fun s : List (List Int) × Int × List Int => ∃ k B col, EchR p n w A (s.1, s.2.2, s.2.1) k B col w) w (fun c (s : List (List Int) × Int × List Int × Int) => s.2.2.2 = (c : Int) ∧ ∃ k B col, EchR p n w A (s.1, s.2.2.1, s.2.1) k B col c) ⟨rfl, 0, A, fun _ => 0, hR, ⟨by omega, by omega, fun s h => absurd h (by omega), fun s t h1 h2 => absurd h2 (by omega), fun s r h => absurd h (by omega), fun r j _ _ h => absurd h (by omega), hA, fun s j h => absurd h (by omega)⟩, Rq.refl _ _ _ _, ⟨rfl, fun s h => absurd h (by omega)⟩, ⟨by show (0 : Int) ≤ 1; omega, by show (1 : Int) < p; omega⟩, fun _ => by show Cg p _ (1 * _); rw [Int.one_mul]; exact .refl _ _⟩ ?_ (by omega)).mono ?_
  · rintro c ⟨T', q, pv, _⟩ hcw ⟨rfl, k, B, col, h1, h2, h3, h4, h5, h6⟩
    simp only at h1 h4 h5 h6
    unfold sparseref07_Echelon_l120 sparseref07_Echelon_j159
    simp only
    have hkn := h2.kn
    rw [colsR_ok hn hT, obs, ret_if]
    refine ⟨fun hlt => ?_, fun hge => ⟨_, rfl, k, B, col, h1, (by have e : c = w := (by omega); subst e; exact h2), h3, h4, h5, (by have e : c = w := (by omega); subst e; exact h6)⟩⟩
    have hcw : c < w := by omega
    have nxt : wa .i64 (c : Int) 1 = ((c + 1 : Nat) : Int) := by rw [wa_i (by omega) (by omega)]; rfl
    rw [ret_bind, h4.1]
    refine (findR_ok h1 hcw hkn (by omega)).mono fun i hi => ?_
    obtain ⟨t, rfl, hkt, hi⟩ := hi
    rw [ret_if, h1.1]
    refine ⟨fun he => ?_, fun he => ?_⟩
    · have hz : ∀ r, k ≤ r → r < n → B r c = 0 := by
        rcases hi with ⟨_, h⟩ | ⟨h, _⟩
        · exact h
        · omega
      have := h2.kc
      exact ⟨_, rfl, by omega, nxt, k, B, col, h1, h2.none hcw hz, h3, h4, ⟨by show (0 : Int) ≤ 0; omega, by show (0 : Int) < p; omega⟩, fun h => absurd h (by omega)⟩
    · obtain ⟨htn, hne⟩ : t < n ∧ B t c ≠ 0 := by
        rcases hi with ⟨h, _⟩ | h
        · omega
        · exact h
      have hkn : k < n := by omega
      have key : ∀ (T1 : List (List Int)) (q1 : Int), Tb T1 n w (sw B k t) → (0 ≤ q1 ∧ q1 < p) → Cg p q1 (if t = k then q else -q) →
          Ret (sparseref07_Echelon_j163 pv (c : Int) p T1 q1) (VQ (fun t' : List (List Int) × Int × List Int × Int => c < w ∧ t'.2.2.2 = ((c + 1 : Nat) : Int) ∧ ∃ k B col, EchR p n w A (t'.1, t'.2.2.1, t'.2.1) k B col (c + 1)) (fun s : List (List Int) × Int × List Int => ∃ k B col, EchR p n w A (s.1, s.2.2, s.2.1) k B col w)) := by
        intro T1 q1 hT1 hq1 hqq
        have hB1 : ∀ r' j, r' < n → j < w → 0 ≤ sw B k t r' j ∧ sw B k t r' j < p := by
          intro r' j hr' hj
          unfold sw
          split
          · exact h2.rng _ _ htn hj
          · split
            · exact h2.rng _ _ hkn hj
            · exact h2.rng _ _ hr' hj
        have hpv : sw B k t k c = B t c := by unfold sw; rw [if_pos rfl]
        have hb := hB1 k c hkn hcw
        obtain ⟨f, hf1, hf2, hf3⟩ := inverse_ok hP (a := sw B k t k c) ⟨by rw [hpv] at hb ⊢; omega, hb.2⟩
        have hfc : Cg p (sw B k t k c * f) 1 := by
          have e1 : (1 : Int) % p = 1 := Int.emod_eq_of_lt (by omega) (by omega)
          exact Cg.iff.2 (by rw [hf3, e1])
        unfold sparseref07_Echelon_j163 sparseref07_Echelon_j159
        rw [h4.1, ret_bind]; refine hT1.get hkn fun l1 hl1 hl1' => ?_
        rw [ret_bind]; refine hl1'.get hcw ?_
        rw [wmr hm hq1 hb, obs, ret_bind]; refine hT1.get hkn fun l2 hl2 hl2' => ?_
        rw [ret_bind]; refine hl2'.get hcw ?_
        rw [ref_inv hP hb, hf1, obs, ret_bind]
        refine (scaleR_ok (by omega) hm hT1 hkn (fun j hj => hB1 k j hkn hj) hf2 h4.1 hw).mono fun T2 hT2 => ?_
        rw [ret_bind]
        refine (elimR_ok (by omega) hm hT2 hkn hcw (fun r' j hr' hj => ?_) h4.1 hw hn2).mono fun T3 hT3 => ?_
        · by_cases e : r' = k
          · subst e; rw [up_in]; exact mod_rng _ (by omega)
          · rw [up_out e]; exact hB1 r' j hr' hj
        rw [ret_bind, ret_app]
        have := h2.kc
        refine ⟨by rw [h4.1]; simp only [List.length_cons, List.length_nil]; omega, _, rfl, hcw, nxt, k + 1, _, _, hT3, h2.next hp hcw hkn hkt htn hf3, h3.trans (Rq.sw3 hkn htn hfc), h4.push, mod_rng _ (by omega), fun hkc => ?_⟩
        refine (det_next hkn htn hfc (h6 (by omega))).trans ?_
        refine Cg.mul ?_ (Cg.refl p _)
        exact ((hqq.symm.mul (Cg.refl p _))).trans (Cg.mod p _).symm
      rw [ret_if]
      refine ⟨fun heq => ?_, fun hneq => ?_⟩
      · have htk : t = k := by omega
        subst htk
        refine key _ _ ?_ h5 ?_
        · rw [sw_self]; exact h1
        · rw [if_pos rfl]; exact .refl _ _
      · have htk : t ≠ k := by omega
        rw [ret_bind]; refine h1.get hkn fun lk hlk hlk' => ?_
        rw [ret_bind]; refine h1.get htn fun la hla hla' => ?_
        rw [ret_bind, ret_set]
        refine ⟨by omega, by rw [h1.1]; omega, ?_⟩
        rw [ret_bind, ret_set]
        refine ⟨by omega, by rw [List.length_set, h1.1]; omega, ?_⟩
        rw [ref_mod, mod_ok (by omega) hm, obs]
        refine key _ _ ?_ (mod_rng _ (by omega)) ?_
        · rw [Int.toNat_natCast, Int.toNat_natCast]
          refine ((h1.set htn hlk').set hkn hla').congr fun r' j _ _ => ?_
          unfold sw up
          by_cases e1 : r' = k
          · simp only [e1, if_true]
          · by_cases e2 : r' = t
            · simp only [e1, if_false]
            · simp only [e1, e2, if_false]
        · rw [if_neg htk]
          have : wneg .i64 q = -q := IntWalk.i64_in _ ⟨by omega, by omega⟩
          rw [this]
          exact Cg.mod p _
  · rintro ⟨T', q, pv⟩ h
    exact ⟨_, rfl, h⟩
end Km
/- Determinant and rank modulo a prime, as the program returns them. -/
namespace Km
open Sx Go M Vc Dt
section
variable {p : Int} {n : Nat} {T : List (List Int)} {X Y : Mx}
theorem squareD_ok (hP : PP p) (hn : 0 < n) (hn2 : n ≤ 200) (hT : Tb T n n X) : modular_square T p = some 0 := by
  unfold modular_square
  rw [check_ok hP hn hn2 hn2 hT, obs, if_pos rfl, columns_ok hn hT, obs, obs, hT.1, if_neg (by simp)]
theorem _root_.Dt.Rre.id {B : Mx} {col : Nat → Nat} (h : Rre p n n B col n n) : ∀ s, s < n → col s = s := by
  intro s hs
  have h1 := h.ge s hs
  have h2 : ∀ d, s + d < n → col s + d ≤ col (s + d) := by
    intro d
    induction d with
    | zero => intro _; exact Nat.le_refl _
    | succ d ih => intro hd; have := h.asc (s + d) (s + (d + 1)) (by omega) (by omega); have := ih (by omega); omega
  have h3 := h2 (n - 1 - s) (by omega)
  have h4 := h.lt (n - 1) (by omega)
  rw [show s + (n - 1 - s) = n - 1 by omega] at h3
  omega
theorem det_zrow {B : Mx} {r : Nat} (hr : r < n) (hz : ∀ j, j < n → B r j = 0) : det n B = 0 := by
  have h1 := (det_am n).scale hr B 0
  rw [Int.zero_mul] at h1
  rw [← h1]
  refine det_congr fun i j hi hj => ?_
  by_cases e : i = r
  · subst e; rw [up_in, Int.zero_mul, hz j hj]
  · rw [up_out e]
/-- what Det returns -/
theorem det_ok (hP : PP p) (hn : 0 < n) (hn2 : n ≤ 200) (hT : Tb T n n X) : ∃ d R o, modular_Det T p = some (d, 0) ∧ (0 ≤ d ∧ d < p) ∧ Cg p (det n X) d ∧ modular_reduced T p = some R ∧ modular_echelon R p = some o ∧ (d ≠ 0 ↔ o.2.1.length = n) := by
  have hp := hP.two
  obtain ⟨R, o, hR, hRT, hEo, k, B, col, e1, e2, e3, e4, e5, e6, u, hu⟩ := ech_ex hP hn hn2 (by omega) hT
  have hX : Cg p (det n X) (det n (Rd p X)) := Cg.det fun i j _ _ => (Cg.mod p _).symm
  have hkn := e2.kn
  by_cases hk : k = n
  · subst hk
    refine ⟨o.2.2, R, o, ?_, e5, ?_, hR, hEo, ⟨fun _ => e4.1, fun _ h0 => ?_⟩⟩
    · unfold modular_Det
      rw [squareD_ok hP hn hn2 hT, obs, if_pos rfl, hR, obs, hEo, obs, e4.1, hT.1, if_neg (by omega)]
    · have h1 : det k B = 1 := by
        rw [← det_one k]
        refine det_congr fun i j hi hj => ?_
        have := e2.unit j i hj hi
        rw [e2.id j hj] at this
        rw [this]; rfl
      rw [h1, Int.mul_one] at e6
      exact hX.trans e6
    · rw [h0, Int.zero_mul] at hu
      have := Cg.iff.1 hu
      rw [Int.zero_emod, Int.emod_eq_of_lt (by omega) (by omega)] at this
      omega
  · refine ⟨0, R, o, ?_, ⟨by omega, by omega⟩, ?_, hR, hEo, ⟨fun h => absurd rfl h, fun h => absurd (e4.1.symm.trans h) hk⟩⟩
    · unfold modular_Det
      rw [squareD_ok hP hn hn2 hT, obs, if_pos rfl, hR, obs, hEo, obs, e4.1, hT.1, if_pos (by omega)]
    · have h1 : det n B = 0 := det_zrow (r := n - 1) (by omega) fun j hj => e2.zero (n - 1) j (by omega) (by omega) hj
      rw [h1, Int.mul_zero] at e6
      exact hX.trans e6
theorem det_nil (hP : PP p) : modular_Det [] p = some (1, 0) := by
  unfold modular_Det modular_square modular_check
  have h1 : modular_columns [] = some 0 := rfl
  have h2 : slices_ContainsFunc_int [] 0 = some false := by kernel_rfl
  have h3 : modular_reduced [] p = some [] := by
    refine Ret.eq ?_
    unfold modular_reduced
    rw [ret_bind]
    refine (ret_loop (Post := fun R => R = []) 0 (fun k (s : List (List Int) × Int) => s = ([], 0)) rfl ?_ (by omega)).mono fun R h => ⟨_, rfl, h⟩
    rintro k _ hk rfl
    exact ⟨_, rfl, rfl⟩
  have h4 : modular_echelon [] p = some ([], [], 1) := by
    refine Ret.eq ?_
    unfold modular_echelon
    rw [h1, obs, ret_bind]
    refine (ret_loop (Post := fun o => o = ([], [], 1)) 0 (fun k (s : List (List Int) × List Int × Int × Int) => s = ([], [], 1, 0)) rfl ?_ (by omega)).mono fun o h => by subst h; exact ⟨_, rfl, rfl⟩
    rintro k _ hk rfl
    exact ⟨_, rfl, rfl⟩
  rw [h1, obs, isPrime_ok hP, obs, if_pos rfl, h2, obs, if_neg (by simp), if_neg (by decide), obs, if_pos rfl, obs, obs, if_neg (by decide), obs, if_pos rfl, h3, obs, h4, obs]
  rfl
theorem rank_nil (hP : PP p) : modular_Rank [] p = some (0, 0) := by
  unfold modular_Rank modular_check
  have h1 : modular_columns [] = some 0 := rfl
  have h2 : slices_ContainsFunc_int [] 0 = some false := by kernel_rfl
  have h3 : modular_reduced [] p = some [] := by
    refine Ret.eq ?_
    unfold modular_reduced
    rw [ret_bind]
    refine (ret_loop (Post := fun R => R = []) 0 (fun k (s : List (List Int) × Int) => s = ([], 0)) rfl ?_ (by omega)).mono fun R h => ⟨_, rfl, h⟩
    rintro k _ hk rfl
    exact ⟨_, rfl, rfl⟩
  have h4 : modular_echelon [] p = some ([], [], 1) := by
    refine Ret.eq ?_
    unfold modular_echelon
    rw [h1, obs, ret_bind]
    refine (ret_loop (Post := fun o => o = ([], [], 1)) 0 (fun k (s : List (List Int) × List Int × Int × Int) => s = ([], [], 1, 0)) rfl ?_ (by omega)).mono fun o h => by subst h; exact ⟨_, rfl, rfl⟩
    rintro k _ hk rfl
    exact ⟨_, rfl, rfl⟩
  rw [h1, obs, isPrime_ok hP, obs, if_pos rfl, h2, obs, if_neg (by simp), if_neg (by decide), obs, if_pos rfl, h3, obs, h4, obs]
  rfl
end
end Km
/- The law ModularLinear, part one: the two checks, copies, what is returned for a bad matrix and for none. -/
namespace Km
open Sx Go M Vc Dt
theorem awake07 : sparselaw07_awake = some true := by kernel_rfl
theorem isPrime_cases (x : Int) : modular_IsPrime x = some false ∨ (modular_IsPrime x = some true ∧ PP x) := by
  by_cases hx : x < 2 ∨ 2147483647 < x
  · refine .inl ?_
    unfold modular_IsPrime
    rw [if_pos (by simpa using hx)]
  · have hx : 2 ≤ x ∧ x ≤ 2147483647 := by omega
    obtain ⟨P, rfl⟩ := Int.eq_ofNat_of_zero_le (show 0 ≤ x by omega)
    have h : Ret (loop (modular_IsPrime_l2 (P : Int)) 2) (fun o => o = .inl () → ∀ d, 2 ≤ d → d * d ≤ P → ¬ d ∣ P) := by
      refine ret_loopM (fun i => (2 ≤ i ∧ i ≤ 46342) ∧ ∀ d : Nat, 2 ≤ d → (d : Int) < i → ¬ d ∣ P) (fun i => (46342 - i).toNat) ⟨by decide, fun d h1 h2 => absurd h2 (by omega)⟩ (by decide) ?_
      rintro i ⟨⟨h2, h3⟩, h0⟩
      obtain ⟨h4, h5⟩ := sqb h2 h3
      unfold modular_IsPrime_l2
      rw [wm_i (by omega) (by omega)]
      split
      · rename_i hle
        have h6 : i ≤ 46341 := by
          refine Classical.byContradiction fun hc => ?_
          obtain rfl : i = 46342 := by omega
          omega
        rw [wr_nn (by omega) (by omega), obs]
        split
        · exact ⟨_, rfl, fun h => by cases h⟩
        · rename_i hne
          refine ⟨_, rfl, ?_⟩
          rw [wa_i (by omega) (by omega)]
          refine ⟨⟨⟨by omega, by omega⟩, fun d hd1 hd2 hd3 => ?_⟩, by show (46342 - (i + 1)).toNat < (46342 - i).toNat; omega⟩
          by_cases e : (d : Int) = i
          · apply hne
            rw [← e]
            exact Int.emod_eq_zero_of_dvd (by exact_mod_cast hd3)
          · exact h0 d hd1 (by omega) hd3
      · rename_i hgt
        refine ⟨_, rfl, fun _ d hd1 hd2 => h0 d hd1 ?_⟩
        refine Classical.byContradiction fun hc => ?_
        have : i * i ≤ (d : Int) * (d : Int) := Int.mul_le_mul (by omega) (by omega) (by omega) (by omega)
        have h9 : ((d * d : Nat) : Int) ≤ (P : Int) := by omega
        simp at h9
        omega
    obtain ⟨o, ho, hpo⟩ := h
    unfold modular_IsPrime
    rw [if_neg (by simp; omega), ho, obs]
    cases o with
    | inr u => exact .inl rfl
    | inl u => exact .inr ⟨rfl, hx.1, hx.2, Nt.Prm.of (by rw [Int.toNat_natCast]; omega) (by rw [Int.toNat_natCast]; exact hpo rfl)⟩
theorem twinI_ok {l : List Int} (hl : l.length ≤ 1000) : sparsekit_TwinInts l = some l := by
  refine Ret.eq ?_
  unfold sparsekit_TwinInts
  rw [ret_bind]
  refine (ret_loop (Post := fun o => o = l) l.length (fun k (s : List Int × Int) => s = (l.take k, (k : Int))) (by simp) ?_ (by omega)).mono fun o h => ⟨_, rfl, h⟩
  rintro k _ hk rfl
  unfold sparsekit_TwinInts_l1
  simp only
  rw [ret_if]
  refine ⟨fun hlt => ?_, fun _ => ⟨_, rfl, take_all (by omega)⟩⟩
  rw [ret_bind, ret_get]
  refine ⟨by omega, hlt, fun x hx => ?_⟩
  rw [Int.toNat_natCast] at hx
  rw [ret_bind, ret_app]
  refine ⟨by rw [List.length_take]; simp only [List.length_cons, List.length_nil]; omega, _, rfl, by omega, ?_⟩
  rw [wa_i (by omega) (by omega), ← tks hx]; rfl
theorem twinL_ok {m : List (List Int)} (hm : m.length ≤ 1000) (hr : ∀ l, l ∈ m → l.length ≤ 1000) : sparsekit_TwinLists m = some m := by
  refine Ret.eq ?_
  unfold sparsekit_TwinLists
  rw [ret_bind]
  refine (ret_loop (Post := fun o => o = m) m.length (fun k (s : List (List Int) × Int) => s = (m.take k, (k : Int))) (by simp) ?_ (by omega)).mono fun o h => ⟨_, rfl, h⟩
  rintro k _ hk rfl
  unfold sparsekit_TwinLists_l1
  simp only
  rw [ret_if]
  refine ⟨fun hlt => ?_, fun _ => ⟨_, rfl, take_all (by omega)⟩⟩
  rw [ret_bind, ret_get]
  refine ⟨by omega, hlt, fun x hx => ?_⟩
  rw [Int.toNat_natCast] at hx
  rw [twinI_ok (hr x (mem_get hx)), obs, ret_bind, ret_app]
  refine ⟨by rw [List.length_take]; simp only [List.length_cons, List.length_nil]; omega, _, rfl, by omega, ?_⟩
  rw [wa_i (by omega) (by omega), ← tks hx]; rfl
theorem ints_self {l : List Int} (hl : l.length ≤ 1000) : sparsekit_Ints l l = some true := by
  refine Ret.eq ?_
  unfold sparsekit_Ints
  rw [ret_if]
  refine ⟨fun _ => ?_, fun h => absurd rfl h⟩
  rw [ret_bind]
  refine (ret_loop (Post := fun o => o = .inl ()) l.length (fun k i => i = (k : Int)) rfl ?_ (by omega)).mono ?_
  · rintro k i hk rfl
    unfold sparsekit_Ints_l1
    rw [ret_if]
    refine ⟨fun hlt => ?_, fun _ => ⟨_, rfl, rfl⟩⟩
    rw [ret_bind, ret_get]
    refine ⟨by omega, hlt, fun x hx => ?_⟩
    rw [ret_bind, ret_get]
    refine ⟨by omega, hlt, fun y hy => ?_⟩
    obtain rfl := Option.some.inj (hx.symm.trans hy)
    rw [if_pos rfl]
    refine ⟨_, rfl, ?_⟩
    rw [wa_i (by omega) (by omega)]
    exact ⟨by omega, by simp⟩
  · rintro _ rfl
    exact ⟨_, rfl, rfl⟩
theorem lists_self {m : List (List Int)} (hm : m.length ≤ 1000) (hr : ∀ l, l ∈ m → l.length ≤ 1000) : sparsekit_Lists m m = some true := by
  refine Ret.eq ?_
  unfold sparsekit_Lists
  rw [ret_if]
  refine ⟨fun _ => ?_, fun h => absurd rfl h⟩
  rw [ret_bind]
  refine (ret_loop (Post := fun o => o = .inl ()) m.length (fun k i => i = (k : Int)) rfl ?_ (by omega)).mono ?_
  · rintro k i hk rfl
    unfold sparsekit_Lists_l1
    rw [ret_if]
    refine ⟨fun hlt => ?_, fun _ => ⟨_, rfl, rfl⟩⟩
    rw [ret_bind, ret_get]
    refine ⟨by omega, hlt, fun x hx => ?_⟩
    rw [ret_bind, ret_get]
    refine ⟨by omega, hlt, fun y hy => ?_⟩
    obtain rfl := Option.some.inj (hx.symm.trans hy)
    rw [ints_self (hr x (mem_get hx)), obs, if_pos rfl]
    refine ⟨_, rfl, ?_⟩
    rw [wa_i (by omega) (by omega)]
    exact ⟨by omega, by simp⟩
  · rintro _ rfl
    exact ⟨_, rfl, rfl⟩
theorem small_ok (m : List (List Int)) : Ret (sparselaw07_small m) (fun b => b = true → m.length ≤ 6 ∧ ∀ l, l ∈ m → l.length ≤ 6) := by
  unfold sparselaw07_small
  rw [ret_if]
  refine ⟨fun _ => ⟨_, rfl, fun h => by cases h⟩, fun hle => ?_⟩
  rw [ret_bind]
  refine (ret_loop (Post := fun o => o = .inl () → ∀ l, l ∈ m → l.length ≤ 6) m.length (fun k (i : Int) => i = (k : Int) ∧ ∀ l, l ∈ m.take k → l.length ≤ 6) ⟨rfl, by simp⟩ ?_ (by omega)).mono ?_
  · rintro k _ hk ⟨rfl, h0⟩
    unfold sparselaw07_small_l1
    rw [ret_if]
    refine ⟨fun hlt => ?_, fun _ => ⟨_, rfl, fun _ => by rwa [take_all (by omega)] at h0⟩⟩
    rw [ret_bind, ret_get]
    refine ⟨by omega, hlt, fun x hx => ?_⟩
    rw [Int.toNat_natCast] at hx
    rw [ret_if]
    refine ⟨fun _ => ⟨_, rfl, fun h => by cases h⟩, fun hx6 => ⟨_, rfl, by omega, by rw [wa_i (by omega) (by omega)]; rfl, fun l hl => ?_⟩⟩
    rw [tks hx, List.mem_append, List.mem_singleton] at hl
    rcases hl with hl | rfl
    · exact h0 l hl
    · omega
  · rintro (_ | _) h
    · exact ⟨_, rfl, fun _ => ⟨by omega, h rfl⟩⟩
    · exact ⟨_, rfl, fun h => by cases h⟩
theorem contains_ok {m : List (List Int)} {w : Int} (hm : m.length ≤ 1000) : Ret (slices_ContainsFunc_int m w) (fun b => b = true ↔ ∃ l, l ∈ m ∧ (l.length : Int) ≠ w) := by
  unfold slices_ContainsFunc_int slices_IndexFunc_int
  rw [ret_bind, ret_bind]
  refine (ret_loop (Post := fun o => (o = .inl () ∧ ∀ l, l ∈ m → (l.length : Int) = w) ∨ ∃ k : Nat, o = .inr (k : Int) ∧ ∃ l, l ∈ m ∧ (l.length : Int) ≠ w) m.length (fun k (i : Int) => i = (k : Int) ∧ ∀ l, l ∈ m.take k → (l.length : Int) = w) ⟨rfl, by simp⟩ ?_ (by omega)).mono ?_
  · rintro k _ hk ⟨rfl, h0⟩
    unfold slices_IndexFunc_int_l1 modular_check_1
    rw [ret_if]
    refine ⟨fun hlt => ?_, fun _ => ⟨_, rfl, .inl ⟨rfl, by rwa [take_all (by omega)] at h0⟩⟩⟩
    rw [ret_bind, ret_get]
    refine ⟨by omega, hlt, fun x hx => ?_⟩
    rw [Int.toNat_natCast] at hx
    rw [obs, ret_if]
    refine ⟨fun hne => ⟨_, rfl, .inr ⟨k, rfl, x, mem_get hx, by simpa using hne⟩⟩, fun he => ⟨_, rfl, by omega, by rw [wa_i (by omega) (by omega)]; rfl, fun l hl => ?_⟩⟩
    rw [tks hx, List.mem_append, List.mem_singleton] at hl
    rcases hl with hl | rfl
    · exact h0 l hl
    · simpa using he
  · rintro _ (⟨rfl, h⟩ | ⟨k, rfl, h⟩)
    · exact ⟨_, rfl, _, rfl, by simp; exact fun l hl => h l hl⟩
    · exact ⟨_, rfl, _, rfl, by
        have : decide ((0 : Int) ≤ (k : Int)) = true := by simp
        rw [this]; exact ⟨fun _ => h, fun _ => rfl⟩⟩
theorem shape_ok {m : List (List Int)} (hm : m.length ≤ 6) (hr : ∀ l, l ∈ m → l.length ≤ 6) {l0 : List Int} (h0 : m[0]? = some l0) : Ret ((loop (sparseref07_Check_l1 m) ([], 0)).bind fun x => sparseref07_Shape x) (fun e => (e = 0 ∧ ∀ l, l ∈ m → l.length = l0.length) ∨ (e = 5 ∧ ∃ l, l ∈ m ∧ l.length ≠ l0.length)) := by
  rw [ret_bind]
  refine (ret_loop (Post := fun o => o = m.map fun l => (l.length : Int)) m.length (fun k (s : List Int × Int) => s = ((m.map fun l => (l.length : Int)).take k, (k : Int))) (by simp) ?_ (by omega)).mono ?_
  · rintro k _ hk rfl
    unfold sparseref07_Check_l1
    simp only
    rw [ret_if]
    refine ⟨fun hlt => ?_, fun _ => ⟨_, rfl, take_all (by rw [List.length_map]; omega)⟩⟩
    rw [ret_bind, ret_get]
    refine ⟨by omega, hlt, fun x hx => ?_⟩
    rw [Int.toNat_natCast] at hx
    have hx2 : (m.map fun l => (l.length : Int))[k]? = some (x.length : Int) := by rw [List.getElem?_map, hx]; rfl
    rw [ret_bind, ret_app]
    refine ⟨by rw [List.length_take, List.length_map]; simp only [List.length_cons, List.length_nil]; omega, _, rfl, by omega, ?_⟩
    rw [wa_i (by omega) (by omega), ← tks hx2]; rfl
  · rintro _ rfl
    have hn : 0 < m.length := (List.getElem?_eq_some_iff.1 h0).1
    have h00 : (m.map fun l => (l.length : Int))[0]? = some (l0.length : Int) := by rw [List.getElem?_map, h0]; rfl
    have get0 : ∀ {Q : Int → Prop}, Q (l0.length : Int) → Ret (getI (m.map fun l => (l.length : Int)) 0) Q := by
      intro Q hQ
      rw [ret_get]
      refine ⟨by omega, by rw [List.length_map]; omega, fun x hx => ?_⟩
      rw [show (0 : Int).toNat = 0 from rfl, h00] at hx
      obtain rfl := Option.some.inj hx
      exact hQ
    unfold sparseref07_Shape
    rw [ret_bind]
    refine (ret_loop (Post := fun o => (o = .inl () ∧ ∀ l, l ∈ m → l.length = l0.length) ∨ (o = .inr () ∧ ∃ l, l ∈ m ∧ l.length ≠ l0.length)) m.length (fun k (i : Int) => i = (k : Int) ∧ ∀ l, l ∈ m.take k → l.length = l0.length) ⟨rfl, by simp⟩ ?_ (by omega)).mono ?_
    · rintro k _ hk ⟨rfl, h1⟩
      unfold sparseref07_Shape_l1
      rw [ret_if, List.length_map]
      refine ⟨fun hlt => ?_, fun _ => ⟨_, rfl, .inl ⟨rfl, by rwa [take_all (by omega)] at h1⟩⟩⟩
      rw [ret_bind, ret_get]
      refine ⟨by omega, by rw [List.length_map]; omega, fun y hy => ?_⟩
      rw [Int.toNat_natCast, List.getElem?_map] at hy
      obtain ⟨x, hx, rfl⟩ := Option.map_eq_some_iff.1 hy
      rw [ret_bind]; refine get0 ?_
      rw [ret_if]
      refine ⟨fun he => ⟨_, rfl, by omega, by rw [wa_i (by omega) (by omega)]; rfl, fun l hl => ?_⟩, fun hne => ⟨_, rfl, .inr ⟨rfl, x, mem_get hx, by omega⟩⟩⟩
      rw [tks hx, List.mem_append, List.mem_singleton] at hl
      rcases hl with hl | rfl
      · exact h1 l hl
      · omega
    · rintro _ (⟨rfl, h⟩ | ⟨rfl, h⟩)
      · simp only
        have h6 := hr l0 (mem_get h0)
        rw [List.length_map, if_neg (by omega), if_pos (by omega), ret_bind, ret_bind, ret_bind]
        refine get0 ?_
        refine ⟨_, rfl, _, rfl, ?_⟩
        show Ret (if (decide ((200 : Int) < (l0.length : Int))) = true then some 6 else some 0) _
        rw [if_neg (by simp; omega)]
        exact ⟨_, rfl, .inl ⟨rfl, h⟩⟩
      · exact ⟨_, rfl, .inr ⟨rfl, h⟩⟩
/-- both checks, for a matrix that has a row -/
theorem checks {m : List (List Int)} (p : Int) (hm : m.length ≤ 6) (hr : ∀ l, l ∈ m → l.length ≤ 6) {l0 : List Int} (h0 : m[0]? = some l0) :
    ∃ e, modular_check m p = some e ∧ sparseref07_Check m p = some e ∧ ((e = 0 ∧ PP p ∧ ∃ X, Tb m m.length l0.length X) ∨ e ≠ 0) := by
  have hn : 0 < m.length := (List.getElem?_eq_some_iff.1 h0).1
  have hcol : modular_columns m = some (l0.length : Int) := by
    refine Ret.eq ?_
    unfold modular_columns
    rw [ret_if]
    refine ⟨fun h => absurd h (by omega), fun _ => ?_⟩
    rw [ret_bind, ret_get]
    refine ⟨by omega, by omega, fun x hx => ?_⟩
    rw [show (0 : Int).toNat = 0 from rfl, h0] at hx
    obtain rfl := Option.some.inj hx
    exact ⟨_, rfl, rfl⟩
  have hpr : sparseref07_IsPrime p = modular_IsPrime p := rfl
  rcases isPrime_cases p with hP | ⟨hP, hPP⟩
  · refine ⟨70, ?_, ?_, .inr (by decide)⟩
    · unfold modular_check
      rw [hcol, obs, hP, obs, if_neg (by simp)]
    · unfold sparseref07_Check
      rw [hpr, hP, obs, if_neg (by simp)]
  · obtain ⟨b, hb, hb2⟩ := contains_ok (m := m) (w := (l0.length : Int)) (by omega)
    obtain ⟨e, he, he2⟩ := shape_ok hm hr h0
    have href : sparseref07_Check m p = some e := by
      unfold sparseref07_Check
      rw [hpr, hP, obs, if_pos rfl]
      cases hl : loop (sparseref07_Check_l1 m) ([], 0) with
      | none => rw [hl] at he; cases he
      | some x => rw [hl, obs] at he; rw [obs, he, obs]
    have h6 := hr l0 (mem_get h0)
    refine ⟨e, ?_, href, ?_⟩
    · unfold modular_check
      rw [hcol, obs, hP, obs, if_pos rfl, hb, obs]
      rcases he2 with ⟨rfl, h⟩ | ⟨rfl, l, hl, hne⟩
      · have : b ≠ true := fun hbt => by obtain ⟨l, hl, hne⟩ := hb2.1 hbt; exact hne (by rw [h l hl])
        rw [if_neg this, if_neg (by simp; omega)]
      · have : b = true := hb2.2 ⟨l, hl, by omega⟩
        rw [if_pos this]
    · rcases he2 with ⟨rfl, h⟩ | ⟨rfl, _⟩
      · refine .inl ⟨rfl, hPP, fun r c => (m.getD r []).getD c 0, rfl, fun r hrr => ?_⟩
        refine ⟨m[r], List.getElem?_eq_getElem hrr, h _ (List.getElem_mem hrr), fun c hc => ?_⟩
        have hc2 : c < m[r].length := by rw [h _ (List.getElem_mem hrr)]; exact hc
        rw [List.getElem?_eq_getElem hc2]
        congr 1
        simp [List.getD, hrr, hc2]
      · exact .inr (by decide)
/-- what is returned for a bad matrix -/
theorem bads {m : List (List Int)} {p e : Int} {b : List Int} (h : modular_check m p = some e) (he : e ≠ 0) : modular_Rank m p = some (0, e) ∧ modular_Det m p = some (0, e) ∧ modular_Kernel m p = some ([], e) ∧ modular_Solve m b p = some ([], e) := by
  have hs : modular_square m p = some e := by
    unfold modular_square
    rw [h, obs, if_neg he, obs, if_neg (by simp)]
  refine ⟨?_, ?_, ?_, ?_⟩
  · unfold modular_Rank; rw [h, obs, if_neg he]
  · unfold modular_Det; rw [hs, obs, if_neg he]
  · unfold modular_Kernel; rw [h, obs, if_neg he]
  · unfold modular_Solve; rw [hs, obs, if_neg he]
end Km
/- The law ModularLinear: the program's rank, kernel, determinant and solution are the paper's. -/
namespace Km
open Sx Go M Vc Dt
section
variable {p : Int} {n w : Nat} {T : List (List Int)} {X : Mx}
theorem ln_eq {l m : List Int} {f g : Nat → Int} (hl : Ln l n f) (hm : Ln m n g) (e : ∀ c, c < n → f c = g c) : l = m := by
  apply List.ext_getElem?
  intro c
  rcases Nat.lt_or_ge c n with h | h
  · rw [hl.2 c h, hm.2 c h, e c h]
  · rw [List.getElem?_eq_none (by rw [hl.1]; exact h), List.getElem?_eq_none (by rw [hm.1]; exact h)]
theorem tb_eq {S : List (List Int)} {Y : Mx} (hT : Tb T n w X) (hS : Tb S n w Y) (e : ∀ r c, r < n → c < w → X r c = Y r c) : T = S := by
  apply List.ext_getElem?
  intro r
  rcases Nat.lt_or_ge r n with h | h
  · obtain ⟨l, h1, h2⟩ := hT.2 r h
    obtain ⟨l', h3, h4⟩ := hS.2 r h
    rw [h1, h3, ln_eq h2 h4 (fun c hc => e r c h hc)]
  · rw [List.getElem?_eq_none (by rw [hT.1]; exact h), List.getElem?_eq_none (by rw [hS.1]; exact h)]
theorem pv_eq {l m : List Int} {k : Nat} {col col' : Nat → Nat} (hl : Pv l k col) (hm : Pv m k col') (e : ∀ s, s < k → col s = col' s) : l = m := by
  apply List.ext_getElem?
  intro s
  rcases Nat.lt_or_ge s k with h | h
  · rw [hl.2 s h, hm.2 s h, e s h]
  · rw [List.getElem?_eq_none (by rw [hl.1]; exact h), List.getElem?_eq_none (by rw [hm.1]; exact h)]
theorem ech_same (hp : 2 ≤ p) {A : Mx} {o o' : List (List Int) × List Int × Int} {k k' : Nat} {B B' : Mx} {col col' : Nat → Nat} (h : Ech p n w A o k B col w) (h' : EchR p n w A o' k' B' col' w) : o.1 = o'.1 ∧ o.2.1 = o'.2.1 ∧ k = k' := by
  obtain ⟨e1, e2, e3, e4, _⟩ := h
  obtain ⟨f1, f2, f3, f4, _⟩ := h'
  obtain ⟨g1, g2, g3⟩ := e2.uniq hp f2 (e3.symm.trans f3)
  subst g1
  exact ⟨tb_eq e1 f1 g3, pv_eq e4 f4 g2, rfl⟩
theorem free_ok {a : List (List Int)} {pv : List Int} {q : Int} {k : Nat} {col : Nat → Nat} (h : Pv pv k col) (hk : k ≤ 1000) : Ret (loop (modular_Kernel_l3 (a, pv, q)) 0) (fun fr => ∃ m : Nat, fr = (m : Int) ∧ m ≤ k) := by
  refine ret_loop k (fun m (fr : Int) => fr = (m : Int)) rfl ?_ (by omega)
  rintro m _ hmk rfl
  unfold modular_Kernel_l3
  simp only
  rw [ret_bind, ret_if, h.1]
  refine ⟨fun hlt => ?_, fun hge => ?_⟩
  · rw [ret_bind, ret_get]
    refine ⟨by omega, by rw [h.1]; omega, fun x _ => ?_⟩
    rw [ret_some, ret_if]
    exact ⟨fun _ => ⟨_, rfl, by omega, by rw [wa_i (by omega) (by omega)]; rfl⟩, fun _ => ⟨_, rfl, m, rfl, hmk⟩⟩
  · rw [ret_some, if_neg (by simp)]
    exact ⟨_, rfl, m, rfl, hmk⟩
theorem bind3 {α β γ : Type} {E : Option α} {F : α → Option β} {G : β → Option γ} {v : γ × Int} (h : (E.bind fun a => (F a).bind fun b => (G b).bind fun x => some (x, (0 : Int))) = some v) : (E.bind fun a => (F a).bind fun b => (G b).bind fun x => some x) = some v.1 := by
  cases hE : E with
  | none => rw [hE] at h; cases h
  | some a =>
    rw [hE, obs] at h; rw [obs]
    cases hF : F a with
    | none => rw [hF] at h; cases h
    | some b =>
      rw [hF, obs] at h; rw [obs]
      cases hG : G b with
      | none => rw [hG] at h; cases h
      | some x =>
        rw [hG, obs] at h; rw [obs]
        obtain rfl := Option.some.inj h
        rfl
/-- the paper's kernel vector is the program's -/
theorem kernels (hP : PP p) (hn : 0 < n) (hn2 : n ≤ 200) (hw : w ≤ 200) (hT : Tb T n w X) : ∃ v, modular_Kernel T p = some (v, 0) ∧ sparseref07_Kernel T p = some v ∧ v.length ≤ 200 := by
  have hp := hP.two
  obtain ⟨R, o, hR, hRT, hEo, k, B, col, hE⟩ := ech_ex hP hn hn2 (by omega) hT
  obtain ⟨o', ho', k', B', col', hE'⟩ := echR_ok hP hn (by omega) (by omega) hT
  obtain ⟨s1, s2, rfl⟩ := ech_same hp hE hE'
  have hkw := hE.2.1.kc
  have hpv := hE.2.2.2.1
  have hcol := columns_ok hn hT
  have hcolR := colsR_ok hn hT
  obtain ⟨a, pv, q⟩ := o
  obtain ⟨a', pv', q'⟩ := o'
  simp only at s1 s2 hpv
  subst s1; subst s2
  rcases Nat.eq_zero_or_pos w with h0 | h0
  · subst h0
    obtain rfl : k = 0 := by omega
    refine ⟨[], ?_, ?_, by simp⟩
    · unfold modular_Kernel
      obtain ⟨fr, hfr, m, rfl, hm⟩ := free_ok (a := a) (q := q) hpv (by omega)
      obtain rfl : m = 0 := by omega
      rw [check_ok hP hn hn2 hw hT, obs, if_pos rfl, hR, obs, hEo, obs, hcol, obs, hfr, obs, if_pos rfl]
    · unfold sparseref07_Kernel
      rw [ho', obs, hcolR, obs]
      simp only
      rw [hpv.1, if_pos rfl]
  · obtain ⟨v, hv, hv0, hv1⟩ := kernel_ok hP hn hn2 h0 hw hT hR hEo hE
    obtain ⟨v1, v2⟩ := v
    simp only at hv0 hv1
    subst hv0
    refine ⟨v1, hv, ?_, ?_⟩
    · unfold sparseref07_Kernel
      rw [ho', obs, hcolR, obs]
      simp only
      rw [hpv.1]
      rcases hv1 with ⟨rfl, hk⟩ | ⟨hk, _⟩
      · rw [if_pos (by omega)]
      · rw [if_neg (by omega)]
        unfold modular_Kernel at hv
        obtain ⟨fr, hfr, m, rfl, hm⟩ := free_ok (a := a) (q := q) hpv (by omega)
        rw [check_ok hP hn hn2 hw hT, obs, if_pos rfl, hR, obs, hEo, obs, hcol, obs, hfr, obs, if_neg (by omega)] at hv
        have e3 : sparseref07_Kernel_l3 (a, pv, q') = modular_Kernel_l3 (a, pv, q) := rfl
        have e4 : sparseref07_Kernel_l4 (a, pv, q') = modular_Kernel_l4 (a, pv, q) := rfl
        rw [e3, hfr, obs, obs, e4]
        exact bind3 hv
    · rcases hv1 with ⟨rfl, _⟩ | ⟨_, f, hf, _⟩
      · simp
      · rw [hf.1]; exact hw
theorem ranks (hP : PP p) (hn : 0 < n) (hn2 : n ≤ 200) (hw : w ≤ 200) (hT : Tb T n w X) : ∃ r, modular_Rank T p = some (r, 0) ∧ sparseref07_Rank T p = some r := by
  have hp := hP.two
  obtain ⟨R, o, hR, hRT, hEo, k, B, col, hE⟩ := ech_ex hP hn hn2 (by omega) hT
  obtain ⟨o', ho', k', B', col', hE'⟩ := echR_ok hP hn (by omega) (by omega) hT
  obtain ⟨s1, s2, rfl⟩ := ech_same hp hE hE'
  refine ⟨_, rank_eq hP hn hn2 hw hT hR hEo, ?_⟩
  unfold sparseref07_Rank
  rw [ho', obs, s2]
theorem dets (hP : PP p) (hn : 0 < n) (hn2 : n ≤ 200) (hT : Tb T n n X) : ∃ d R o k B col, modular_Det T p = some (d, 0) ∧ sparseref07_Det T p = some d ∧ modular_reduced T p = some R ∧ Tb R n n (Rd p X) ∧ modular_echelon R p = some o ∧ Ech p n n (Rd p X) o k B col n ∧ (d ≠ 0 ↔ k = n) := by
  have hp := hP.two
  obtain ⟨R, o, hR, hRT, hEo, k, B, col, hE⟩ := ech_ex hP hn hn2 (by omega) hT
  obtain ⟨o', ho', k', B', col', hE'⟩ := echR_ok hP hn (by omega) (by omega) hT
  obtain ⟨s1, s2, rfl⟩ := ech_same hp hE hE'
  obtain ⟨d, R2, o2, hd, hd1, hd2, hR2, hEo2, hd3⟩ := det_ok hP hn hn2 hT
  obtain rfl := Option.some.inj (hR.symm.trans hR2)
  obtain rfl := Option.some.inj (hEo.symm.trans hEo2)
  have hkn := hE.2.1.kn
  rw [hE.2.2.2.1.1] at hd3
  refine ⟨d, R, o, k, B, col, hd, ?_, hR, hRT, hEo, hE, hd3⟩
  unfold sparseref07_Det
  obtain ⟨f1, f2, f3, f4, f5, f6⟩ := hE'
  rw [ho', obs, f4.1, hT.1]
  by_cases hk : k = n
  · subst hk
    rw [if_neg (by omega)]
    have h1 : det k B' = 1 := by
      rw [← det_one k]
      refine det_congr fun i j hi hj => ?_
      have := f2.unit j i hj hi
      rw [f2.id j hj] at this
      rw [this]; rfl
    have h2 := f6 rfl
    rw [h1, Int.mul_one] at h2
    have hX : Cg p (det k X) (det k (Rd p X)) := Cg.det fun i j _ _ => (Cg.mod p _).symm
    exact congrArg some (((hX.trans h2).symm.trans hd2).eq f5 hd1)
  · rw [if_pos (by omega)]
    have : d = 0 := Classical.byContradiction fun h => hk (hd3.1 h)
    rw [this]
theorem solves (hP : PP p) (hn : 0 < n) (hn2 : n ≤ 200) (hT : Tb T n n X) {b : List Int} {h : Nat → Int} (hb : Ln b n h) : ∃ x e ok, modular_Solve T b p = some (x, e) ∧ sparseref07_Solve T b p = some (x, ok) ∧ x.length ≤ 200 ∧ ((ok = true ∧ e = 0) ∨ (ok = false ∧ e = 9 ∧ x = [])) := by
  have hp := hP.two
  have hm := hP.max
  obtain ⟨d, R, o, k, B, col, hd, hdR, hR, hRT, hEo, hE, hd3⟩ := dets hP hn hn2 hT
  have hkn := hE.2.1.kn
  obtain ⟨r, hr, hr1, hr2⟩ := solve_ok (g := fun r => h r % p) hP hn hn2 hT hb (fun _ => rfl) hR hRT hE
  obtain ⟨x, e⟩ := r
  simp only at hr1 hr2
  have hwide : Ret (loop (sparseref07_Solve_l1 T b) ([], 0)) (fun W => Tb W n (n + 1) (fun r c => if c < n then X r c else h r)) := by
    refine ret_loop n (fun k (s : List (List Int) × Int) => s.2 = (k : Int) ∧ Tb s.1 k (n + 1) (fun r c => if c < n then X r c else h r)) ⟨rfl, rfl, fun r h => absurd h (by omega)⟩ ?_ (by omega)
    rintro k ⟨W, _⟩ hk ⟨rfl, hW⟩
    unfold sparseref07_Solve_l1
    simp only at hW ⊢
    rw [ret_if, hT.1]
    refine ⟨fun hlt => ?_, fun _ => ⟨_, rfl, by show Tb W n _ _; have e : k = n := (by omega); exact e ▸ hW⟩⟩
    have hkn : k < n := by omega
    rw [ret_bind]; refine hT.get hkn fun l _ hl => ?_
    rw [ret_bind, ret_app]
    refine ⟨by rw [hl.1]; simp only [List.length_nil]; omega, ?_⟩
    rw [List.nil_append, ret_bind]; refine hb.get hkn ?_
    rw [ret_bind, ret_app]
    refine ⟨by rw [hl.1]; simp only [List.length_cons, List.length_nil]; omega, ?_⟩
    rw [ret_bind, ret_app]
    refine ⟨by rw [hW.1]; simp only [List.length_cons, List.length_nil]; omega, _, rfl, by omega, by show wa .i64 (k : Int) 1 = _; rw [wa_i (by omega) (by omega)]; rfl, by show (W ++ [_]).length = k + 1; rw [List.length_append, hW.1]; rfl, fun r hr => ?_⟩
    show ∃ l', (W ++ [l ++ [h k]])[r]? = some l' ∧ _
    by_cases e : r = k
    · subst e
      refine ⟨l ++ [h r], by rw [List.getElem?_append_right (by rw [hW.1]; omega), hW.1, Nat.sub_self]; rfl, by rw [List.length_append, hl.1]; rfl, fun c hc => ?_⟩
      by_cases e2 : c < n
      · show _ = some (if c < n then X r c else h r)
        rw [List.getElem?_append_left (by rw [hl.1]; exact e2), hl.2 c e2, if_pos e2]
      · obtain rfl : c = n := by omega
        show _ = some (if c < c then X r c else h r)
        rw [List.getElem?_append_right (by rw [hl.1]; omega), hl.1, Nat.sub_self, if_neg (by omega)]; rfl
    · obtain ⟨l', h1, h2⟩ := hW.2 r (by omega)
      exact ⟨l', by rw [List.getElem?_append_left (by rw [hW.1]; omega)]; exact h1, h2⟩
  obtain ⟨W, hW1, hW⟩ := hwide
  by_cases hk : k = n
  · obtain ⟨rfl, k2, B2, col2, g1, g2, g3, _, _⟩ := hr2 hk
    obtain ⟨o', ho', k', B', col', f1, f2, f3, f4, f5, f6⟩ := echR_ok hP hn (by omega) (show n + 1 ≤ 1000 by omega) hW
    have ew : Rd p (fun r c => if c < n then X r c else h r) = Wd p n X (fun r => h r % p) := by
      funext r c
      show (if c < n then X r c else h r) % p = if c < n then X r c % p else h r % p
      by_cases e2 : c < n
      · rw [if_pos e2, if_pos e2]
      · rw [if_neg e2, if_neg e2]
    rw [ew] at f3
    obtain ⟨_, _, u3⟩ := g1.uniq hp f2 (g2.symm.trans f3)
    refine ⟨x, 0, true, hr, ?_, by rw [g3.1]; exact hn2, .inl ⟨rfl, rfl⟩⟩
    unfold sparseref07_Solve
    rw [hW1, obs, hdR, obs, if_neg (hd3.2 hk), ho', obs]
    have hx : Ret (loop (sparseref07_Solve_l2 o' T) ([], 0)) (fun y => Ln y n (fun i => B' i n)) := by
      refine ret_loop n (fun m (s : List Int × Int) => s.2 = (m : Int) ∧ Ln s.1 m (fun i => B' i n)) ⟨rfl, rfl, fun c h => absurd h (by omega)⟩ ?_ (by omega)
      rintro m ⟨l, _⟩ hmn ⟨rfl, h3⟩
      unfold sparseref07_Solve_l2
      simp only at h3 ⊢
      rw [ret_if, f1.1]
      refine ⟨fun hlt => ?_, fun _ => ⟨_, rfl, by show Ln l n _; have e : m = n := (by omega); exact e ▸ h3⟩⟩
      have hmn : m < n := by omega
      rw [ret_bind]; refine f1.get hmn fun l' _ hl' => ?_
      rw [hT.1, ret_bind]; refine hl'.get (show n < n + 1 by omega) ?_
      rw [ret_bind, ret_app]
      refine ⟨by rw [h3.1]; simp only [List.length_cons, List.length_nil]; omega, _, rfl, by omega, by show wa .i64 (m : Int) 1 = _; rw [wa_i (by omega) (by omega)]; rfl, by show (l ++ [_]).length = m + 1; rw [List.length_append, h3.1]; rfl, fun c hc => ?_⟩
      show (l ++ [B' m n])[c]? = _
      by_cases e : c = m
      · subst e; rw [List.getElem?_append_right (by rw [h3.1]; omega), h3.1, Nat.sub_self]; rfl
      · rw [List.getElem?_append_left (by rw [h3.1]; omega), h3.2 c (by omega)]
    obtain ⟨y, hy1, hy2⟩ := hx
    rw [hy1, obs, ln_eq hy2 g3 fun c hc => (u3 c n hc (by omega)).symm]
  · obtain ⟨rfl, rfl⟩ := hr1 (by omega)
    refine ⟨[], 9, false, hr, ?_, by simp, .inr ⟨rfl, rfl, rfl⟩⟩
    unfold sparseref07_Solve
    have : d = 0 := Classical.byContradiction fun h => hk (hd3.1 h)
    rw [hW1, obs, hdR, obs, if_pos this]
end
theorem nils {p : Int} (hP : PP p) : modular_Kernel [] p = some ([], 0) ∧ modular_Solve [] [] p = some ([], 0) ∧ sparseref07_Rank [] p = some 0 ∧ sparseref07_Kernel [] p = some [] ∧ sparseref07_Det [] p = some 1 ∧ sparseref07_Solve [] [] p = some ([], true) := by
  have hp := hP.two
  have hm := hP.max
  have h1 : modular_columns [] = some 0 := rfl
  have h1' : sparseref07_cols [] = some 0 := rfl
  have h2 : slices_ContainsFunc_int [] 0 = some false := by kernel_rfl
  have hc : modular_check [] p = some 0 := by
    unfold modular_check
    rw [h1, obs, isPrime_ok hP, obs, if_pos rfl, h2, obs, if_neg (by simp), if_neg (by decide)]
  have h3 : modular_reduced [] p = some [] := by
    refine Ret.eq ?_
    unfold modular_reduced
    rw [ret_bind]
    refine (ret_loop (Post := fun R => R = []) 0 (fun k (s : List (List Int) × Int) => s = ([], 0)) rfl ?_ (by omega)).mono fun R h => ⟨_, rfl, h⟩
    rintro k _ hk rfl
    exact ⟨_, rfl, rfl⟩
  have h4 : modular_echelon [] p = some ([], [], 1) := by
    refine Ret.eq ?_
    unfold modular_echelon
    rw [h1, obs, ret_bind]
    refine (ret_loop (Post := fun o => o = ([], [], 1)) 0 (fun k (s : List (List Int) × List Int × Int × Int) => s = ([], [], 1, 0)) rfl ?_ (by omega)).mono fun o h => by subst h; exact ⟨_, rfl, rfl⟩
    rintro k _ hk rfl
    exact ⟨_, rfl, rfl⟩
  have h5 : sparseref07_Echelon [] p = some ([], [], 1) := by
    refine Ret.eq ?_
    unfold sparseref07_Echelon
    rw [ret_bind]
    refine (ret_loop (Post := fun R => R = []) 0 (fun k (s : List (List Int) × Int) => s = ([], 0)) rfl ?_ (by omega)).mono fun R h => ?_
    · rintro k _ hk rfl
      exact ⟨_, rfl, rfl⟩
    · subst h
      rw [wr_nn (by omega) (by omega), obs, Int.emod_eq_of_lt (by omega) (by omega), ret_bind]
      refine (ret_loop (Post := fun o => o = ([], 1, [])) 0 (fun k (s : List (List Int) × Int × List Int × Int) => s = ([], 1, [], 0)) rfl ?_ (by omega)).mono fun o h => by subst h; exact ⟨_, rfl, rfl⟩
      rintro k _ hk rfl
      unfold sparseref07_Echelon_l120
      simp only
      rw [h1', obs]
      exact ⟨_, rfl, rfl⟩
  have hs : modular_square [] p = some 0 := by
    unfold modular_square
    rw [hc, obs, if_pos rfl, h1, obs, obs, if_neg (by simp)]
  refine ⟨?_, ?_, ?_, ?_, ?_, ?_⟩
  · unfold modular_Kernel
    have hf : loop (modular_Kernel_l3 ([], [], 1)) 0 = some 0 := by kernel_rfl
    rw [hc, obs, if_pos rfl, h3, obs, h4, obs, h1, obs, hf, obs, if_pos rfl]
  · unfold modular_Solve
    have hl : loop (modular_Solve_l1 [] p) ([], 0) = some [] := by
      refine Ret.eq ?_
      refine ret_loop 0 (fun k (s : List (List Int) × Int) => s = ([], 0)) rfl ?_ (by omega)
      rintro k _ hk rfl
      exact ⟨_, rfl, rfl⟩
    have hl2 : loop (modular_Solve_l4 [] ([], [], 1)) ([], 0) = some (.inl []) := by kernel_rfl
    rw [hs, obs, if_pos rfl, if_pos (by simp), h3, obs, hl, obs, h4, obs, hl2, obs]
  · unfold sparseref07_Rank; rw [h5, obs]; rfl
  · unfold sparseref07_Kernel; rw [h5, obs, h1', obs, if_pos (by simp)]
  · unfold sparseref07_Det; rw [h5, obs, if_neg (by simp)]
  · unfold sparseref07_Solve
    have hl : loop (sparseref07_Solve_l1 [] []) ([], 0) = some [] := by kernel_rfl
    have hl2 : loop (sparseref07_Solve_l2 ([], [], 1) []) ([], 0) = some [] := by kernel_rfl
    have hd : sparseref07_Det [] p = some 1 := by unfold sparseref07_Det; rw [h5, obs, if_neg (by simp)]
    rw [hl, obs, hd, obs, if_neg (by decide), h5, obs, hl2, obs]
end Km
/- The law ModularLinear. -/
namespace Km
open Sx Go M Vc Dt
theorem modularLinear_true (m : List (List Int)) (b : List Int) (p : Int) : sparselaw07_ModularLinear m b p = some true := by
  refine Ret.eq ?_
  unfold sparselaw07_ModularLinear
  rw [ret_bind]
  refine (small_ok m).mono fun r6 h6 => ?_
  have h10 : Ret (if ((!(r6)) || (decide ((6 : Int) < (b.length : Int)))) = true then some true else (sparselaw07_modulus p).bind fun r13 => some (!(r13))) (fun r => r = false → r6 = true ∧ b.length ≤ 6) := by
    rw [ret_if]
    refine ⟨fun _ => ⟨_, rfl, fun h => by cases h⟩, fun h => ?_⟩
    unfold sparselaw07_modulus
    rw [obs]
    refine ⟨_, rfl, fun _ => ?_⟩
    simp only [Bool.or_eq_true, Bool.not_eq_true', decide_eq_true_eq, not_or, Bool.not_eq_false] at h
    exact ⟨h.1, by omega⟩
  rw [ret_bind]
  refine h10.mono fun r10 h10 => ?_
  rw [ret_if]
  refine ⟨fun _ => by rw [awake07, obs]; exact ⟨_, rfl, rfl⟩, fun hr10 => ?_⟩
  obtain ⟨hr6, hb6⟩ := h10 (by simpa using hr10)
  obtain ⟨hm6, hrow⟩ := h6 hr6
  clear h6 h10 hr10 hr6
  have hrow' : ∀ l, l ∈ m → l.length ≤ 1000 := fun l hl => by have := hrow l hl; omega
  rw [twinL_ok (by omega) hrow', obs, twinI_ok (by omega), obs]
  have done : ∀ {Q : Bool → Prop}, Q true → Ret (sparselaw07_awake.bind fun r => some r) Q := fun h => by rw [awake07, obs]; exact ⟨_, rfl, h⟩
  have same : (sparsekit_Lists m m).bind (fun r26 => (if r26 = true then (sparsekit_Ints b b).bind fun r31 => some (!(r31)) else some true)) = some false := by
    rw [lists_self (by omega) hrow', obs, if_pos (by trivial), ints_self (by omega), obs]; rfl
  have same2 : ∀ {β : Type} (F : Bool → Option β), ((sparsekit_Lists m m).bind fun r26 => (if r26 = true then (sparsekit_Ints b b).bind fun r31 => some (!(r31)) else some true).bind F) = F false := by
    intro β F
    rw [lists_self (by omega) hrow', obs, if_pos (by trivial), ints_self (by omega), obs, obs]; rfl
  cases hm0 : m with
  | nil =>
    subst hm0
    rcases isPrime_cases p with hP | ⟨hP, hPP⟩
    · have hc : modular_check [] p = some 70 := by
        unfold modular_check
        rw [show modular_columns [] = some 0 from rfl, obs, hP, obs, if_neg (by simp)]
      have hcR : sparseref07_Check [] p = some 70 := by
        unfold sparseref07_Check
        rw [show sparseref07_IsPrime p = modular_IsPrime p from rfl, hP, obs, if_neg (by simp)]
      obtain ⟨e1, e2, e3, e4⟩ := bads (b := b) hc (by decide)
      rw [e1, obs, e2, obs, e3, obs, e4, obs, same2, if_neg (by simp), hcR, obs, if_neg (by decide)]
      rw [if_pos (by simp), ret_bind]
      exact done ⟨_, rfl, rfl⟩
    · obtain ⟨k1, k2, k3, k4, k5, k6⟩ := nils hPP
      have hcR : sparseref07_Check [] p = some 0 := by
        unfold sparseref07_Check
        have hl : loop (sparseref07_Check_l1 []) ([], 0) = some [] := by kernel_rfl
        have hs : sparseref07_Shape [] = some 0 := by kernel_rfl
        rw [show sparseref07_IsPrime p = modular_IsPrime p from rfl, hP, obs, if_pos (by trivial), hl, obs, hs, obs]
      have hsol : ∃ s, modular_Solve [] b p = some s ∧ ((b = [] ∧ s = ([], 0)) ∨ (b ≠ [] ∧ s = ([], 2))) := by
        by_cases hb : b = []
        · subst hb; exact ⟨_, k2, .inl ⟨rfl, rfl⟩⟩
        · refine ⟨([], 2), ?_, .inr ⟨hb, rfl⟩⟩
          have hs : modular_square [] p = some 0 := by
            have h2 : slices_ContainsFunc_int [] 0 = some false := by kernel_rfl
            unfold modular_square modular_check
            rw [show modular_columns [] = some 0 from rfl, obs, hP, obs, if_pos (by trivial), h2, obs, if_neg (by simp), if_neg (by decide), obs, if_pos (by trivial), obs, obs, if_neg (by simp)]
          unfold modular_Solve
          have : 0 < b.length := List.length_pos_iff.2 hb
          rw [hs, obs, if_pos (by trivial), if_neg (by simp; omega)]
      obtain ⟨s, hs, hs2⟩ := hsol
      rw [rank_nil hPP, obs, det_nil hPP, obs, k1, obs, hs, obs, same2, if_neg (by simp), hcR, obs, if_pos (by trivial)]
      simp only
      rw [if_neg (by simp), k3, obs, obs, if_neg (by simp), k4, obs, ints_self (by simp), obs, obs, if_neg (by simp), if_neg (by simp), obs, if_neg (by simp), if_pos (by trivial), k5, obs, obs, if_neg (by simp)]
      rcases hs2 with ⟨rfl, rfl⟩ | ⟨hb, rfl⟩
      · rw [if_pos (by trivial), k6, obs, if_pos (by trivial), if_pos (by trivial), ints_self (by simp), obs, obs, if_pos (by trivial), ret_bind]
        exact done ⟨_, rfl, rfl⟩
      · have : 0 < b.length := List.length_pos_iff.2 hb
        rw [if_neg (by simp; omega), if_pos (by simp), ret_bind]
        exact done ⟨_, rfl, rfl⟩
  | cons l0 tl =>
    have h0 : m[0]? = some l0 := by rw [hm0]; rfl
    rw [← hm0]
    have hn : 0 < m.length := (List.getElem?_eq_some_iff.1 h0).1
    have hl0 := hrow l0 (mem_get h0)
    obtain ⟨e, he, heR, hcase⟩ := checks p hm6 hrow h0
    rcases hcase with ⟨rfl, hP, X, hT⟩ | hne
    · obtain ⟨rk, q1, q2⟩ := ranks hP hn (by omega) (by omega) hT
      obtain ⟨kv, q3, q4, q5⟩ := kernels hP hn (by omega) (by omega) hT
      have hget : ∀ {Q : List Int → Prop}, Q l0 → Ret (getI m 0) Q := by
        intro Q hQ
        rw [ret_get]
        refine ⟨by omega, by omega, fun x hx => ?_⟩
        rw [show (0 : Int).toNat = 0 from rfl, h0] at hx
        obtain rfl := Option.some.inj hx
        exact hQ
      by_cases hsq : l0.length = m.length
      · rw [hsq] at hT
        obtain ⟨d, R, o, k, B, col, d1, d2, _, _, _, _, _⟩ := dets hP hn (by omega) hT
        by_cases hbl : b.length = m.length
        · have hbL : Ln b m.length (fun i => b.getD i 0) := ⟨hbl, fun c hc => by
            have hc2 : c < b.length := by omega
            rw [List.getElem?_eq_getElem hc2]; congr 1; simp [List.getD, hc2]⟩
          obtain ⟨x, e2, ok, s1, s2, s3, s4⟩ := solves hP hn (by omega) hT hbL
          rw [q1, obs, d1, obs, q3, obs, s1, obs, same2, if_neg (by simp), heR, obs, if_pos (by trivial)]
          simp only
          rw [if_neg (by simp), q2, obs, obs, if_neg (by simp), q4, obs, ints_self (by omega), obs, obs, if_neg (by simp), if_pos (by omega), ret_bind, ret_bind]
          refine hget ?_
          rw [ret_some, hsq, if_neg (by simp), if_pos (by trivial), d2, obs, obs, if_neg (by simp), if_pos (by omega), s2, obs]
          rcases s4 with ⟨rfl, rfl⟩ | ⟨rfl, rfl, rfl⟩
          · rw [if_pos (by trivial), if_pos (by trivial), ints_self (by omega), obs, obs, if_pos (by trivial), ret_bind]
            exact done ⟨_, rfl, rfl⟩
          · rw [if_neg (by simp), if_pos (by simp), ret_bind]
            exact done ⟨_, rfl, rfl⟩
        · have hs : modular_Solve m b p = some ([], 2) := by
            unfold modular_Solve
            rw [squareD_ok hP hn (by omega) hT, obs, if_pos (by trivial), if_neg (by omega)]
          rw [q1, obs, d1, obs, q3, obs, hs, obs, same2, if_neg (by simp), heR, obs, if_pos (by trivial)]
          simp only
          rw [if_neg (by simp), q2, obs, obs, if_neg (by simp), q4, obs, ints_self (by omega), obs, obs, if_neg (by simp), if_pos (by omega), ret_bind, ret_bind]
          refine hget ?_
          rw [ret_some, hsq, if_neg (by simp), if_pos (by trivial), d2, obs, obs, if_neg (by simp), if_neg (by omega), if_pos (by simp), ret_bind]
          exact done ⟨_, rfl, rfl⟩
      · have hsqr : modular_square m p = some 5 := by
          unfold modular_square
          rw [he, obs, if_pos (by trivial), columns_ok hn hT, obs, obs, if_pos (by simp; omega)]
        have hd : modular_Det m p = some (0, 5) := by unfold modular_Det; rw [hsqr, obs, if_neg (by decide)]
        have hs : modular_Solve m b p = some ([], 5) := by unfold modular_Solve; rw [hsqr, obs, if_neg (by decide)]
        rw [q1, obs, hd, obs, q3, obs, hs, obs, same2, if_neg (by simp), heR, obs, if_pos (by trivial)]
        simp only
        rw [if_neg (by simp), q2, obs, obs, if_neg (by simp), q4, obs, ints_self (by omega), obs, obs, if_neg (by simp), if_pos (by omega), ret_bind, ret_bind]
        refine hget ?_
        rw [ret_some, if_pos (by simp; omega), if_pos (by simp), ret_bind]
        exact done ⟨_, rfl, rfl⟩
    · obtain ⟨e1, e2, e3, e4⟩ := bads (b := b) he hne
      rw [e1, obs, e2, obs, e3, obs, e4, obs, same2, if_neg (by simp), heR, obs, if_neg hne]
      rw [if_pos (by simp), ret_bind]
      exact done ⟨_, rfl, rfl⟩
end Km
