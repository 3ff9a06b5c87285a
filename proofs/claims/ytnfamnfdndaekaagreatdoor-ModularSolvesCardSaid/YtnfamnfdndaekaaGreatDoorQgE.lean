/- Kernel vectors and solutions modulo a prime, and the product that checks them. -/
import Derived.Test.YtnfamnfdndaekaaGreatDoorQgD
namespace Km
open Sx Go M Vc Dt
set_option linter.unusedVariables false
set_option linter.unusedSimpArgs false
set_option maxHeartbeats 4000000
section
variable {p : Int} {n w : Nat} {T : List (List Int)} {X : Mx}
theorem sm_mod (hp : 0 < p) (g : Nat → Int) : ∀ m, (sm m g % p + g m) % p = sm (m + 1) g % p := fun m => by
  show _ = (sm m g + g m) % p
  rw [Int.emod_add_emod]
theorem product_ok (hP : PP p) (hn2 : n ≤ 1000) (hw : w ≤ 1000) (hT : Tb T n w X) {v : List Int} {f : Nat → Int} (hv : Ln v w f) : Ret (sparselaw07_product T v p) (fun o => Ln o n (fun r => sm w (fun c => X r c % p * (f c % p)) % p)) := by
  have hp := hP.two
  have hm := hP.max
  unfold sparselaw07_product
  rw [ret_bind]
  refine (ret_loop (Post := fun o => Ln o n (fun r => sm w (fun c => X r c % p * (f c % p)) % p)) n (fun k (s : List Int × Int) => s.2 = (k : Int) ∧ Ln s.1 k (fun r => sm w (fun c => X r c % p * (f c % p)) % p)) ⟨rfl, rfl, fun r h => absurd h (by omega)⟩ ?_ (by omega)).mono fun o h => ⟨_, rfl, h⟩
  rintro k ⟨o, _⟩ hk ⟨rfl, h⟩
  unfold sparselaw07_product_l3
  simp only at h ⊢
  rw [ret_if, hT.1]
  refine ⟨fun hlt => ?_, fun _ => ⟨_, rfl, by show Ln o n _; have : k = n := (by omega); exact this ▸ h⟩⟩
  have hkn : k < n := by omega
  rw [ret_bind]
  refine (ret_loop (Post := fun s => s = sm w (fun c => X k c % p * (f c % p)) % p) w (fun j (s : Int × Int) => s.2 = (j : Int) ∧ s.1 = sm j (fun c => X k c % p * (f c % p)) % p) ⟨rfl, by show (0 : Int) = 0 % p; rw [Int.zero_emod]⟩ ?_ (by omega)).mono fun s hs => ?_
  · rintro j ⟨s, _⟩ hj ⟨rfl, hs⟩
    unfold sparselaw07_product_l4
    simp only at hs ⊢
    subst hs
    rw [ret_if, hv.1]
    refine ⟨fun hlt => ?_, fun _ => ⟨_, rfl, by have : j = w := (by omega); rw [this]; rfl⟩⟩
    have hjw : j < w := by omega
    rw [ret_bind]; refine hT.get hkn fun l _ hl => ?_
    rw [ret_bind]; refine hl.get hjw ?_
    rw [ref_mod, mod_ok (by omega) hm, obs, ret_bind]; refine hv.get hjw ?_
    rw [mod_ok (by omega) hm, obs]
    have h1 := mod_rng (X k j) (show 0 < p by omega)
    have h2 := mod_rng (f j) (show 0 < p by omega)
    have h3 := mul_rng hm h1 h2
    have h4 := mod_rng (sm j (fun c => X k c % p * (f c % p))) (show 0 < p by omega)
    rw [wm_i (by omega) (by omega), wa_i (by omega) (by omega), wr_nn (by omega) (by omega), obs]
    refine ⟨_, rfl, by omega, by show wa .i64 (j : Int) 1 = _; rw [wa_i (by omega) (by omega)]; rfl, ?_⟩
    show (sm j _ % p + X k j % p * (f j % p)) % p = _
    exact sm_mod (by omega) (fun c => X k c % p * (f c % p)) j
  · subst hs
    rw [ret_bind, ret_app]
    refine ⟨by rw [h.1]; simp only [List.length_cons, List.length_nil]; omega, _, rfl, by omega, by show wa .i64 (k : Int) 1 = _; rw [wa_i (by omega) (by omega)]; rfl, by show (o ++ [_]).length = k + 1; rw [List.length_append, h.1]; rfl, fun c hc => ?_⟩
    show (o ++ [_])[c]? = _
    by_cases e : c = k
    · subst e; rw [List.getElem?_append_right (by rw [h.1]; omega), h.1, Nat.sub_self]; rfl
    · rw [List.getElem?_append_left (by rw [h.1]; omega), h.2 c (by omega)]
/-- what Kernel returns: nothing, and then all columns have pivots; or a vector that is mapped to zero -/
theorem kernel_ok (hP : PP p) (hn : 0 < n) (hn2 : n ≤ 200) (hw0 : 0 < w) (hw : w ≤ 200) (hT : Tb T n w X) {R : List (List Int)} {o : List (List Int) × List Int × Int} {k : Nat} {B : Mx} {col : Nat → Nat} (hR : modular_reduced T p = some R) (hEo : modular_echelon R p = some o) (hE : Ech p n w (Rd p X) o k B col w) :
    Ret (modular_Kernel T p) (fun r => r.2 = 0 ∧ ((r.1 = [] ∧ k = w) ∨ (k < w ∧ ∃ f : Nat → Int, Ln r.1 w f ∧ (∀ c, c < w → 0 ≤ f c ∧ f c < p) ∧ Nl p n w B f ∧ ∃ c, c < w ∧ f c = 1))) := by
  have hp := hP.two
  have hm := hP.max
  unfold modular_Kernel
  rw [check_ok hP hn hn2 hw hT, obs, if_pos rfl, hR, obs, hEo, obs]
  obtain ⟨e1, e2, e3, e4, e5, e6⟩ := id hE
  have hkw := e2.kc
  rw [columns_ok hn hT, obs, ret_bind]
  refine (ret_loop (Post := fun fr => ∃ m : Nat, fr = (m : Int) ∧ m ≤ k ∧ (∀ s, s < m → col s = s) ∧ (m < k → col m ≠ m)) k (fun m (fr : Int) => fr = (m : Int) ∧ m ≤ k ∧ ∀ s, s < m → col s = s) ⟨rfl, by omega, fun s h => absurd h (by omega)⟩ ?_ (by omega)).mono ?_
  · rintro m _ hmk ⟨rfl, h1, h2⟩
    unfold modular_Kernel_l3
    rw [ret_bind, ret_if, e4.1]
    refine ⟨fun hlt => ?_, fun hge => ?_⟩
    · rw [ret_bind, ret_get]
      refine ⟨by omega, by rw [e4.1]; omega, fun x hx => ?_⟩
      rw [Int.toNat_natCast, e4.2 m (by omega)] at hx
      obtain rfl := Option.some.inj hx
      rw [ret_some, ret_if]
      refine ⟨fun he => ?_, fun he => ?_⟩
      · have he : (col m : Int) = (m : Int) := by simpa using he
        have he : col m = m := by omega
        exact ⟨_, rfl, by omega, by rw [wa_i (by omega) (by omega)]; rfl, by omega, fun s hs => by
          by_cases e : s = m
          · rw [e]; exact he
          · exact h2 s (by omega)⟩
      · exact ⟨_, rfl, m, rfl, h1, h2, fun _ => by have h : ¬ (col m : Int) = (m : Int) := (by simpa using he); omega⟩
    · rw [ret_some, if_neg (by simp)]
      exact ⟨_, rfl, m, rfl, h1, h2, fun h => absurd h (by omega)⟩
  · rintro _ ⟨fr, rfl, h1, h2, h3⟩
    rw [ret_if]
    refine ⟨fun he => ⟨_, rfl, rfl, .inl ⟨rfl, by omega⟩⟩, fun he => ?_⟩
    have hfr : fr < w := by omega
    have hno := e2.first (fr := fr) (fun s hs => ⟨by omega, h2 s hs⟩) h3
    have hk : k < w := by
      rcases Nat.lt_or_ge k w with h | h
      · exact h
      · exfalso
        have hkw : k = w := by omega
        have := e2.ge fr (by omega)
        by_cases hc : fr < k
        · -- all w columns are pivots: col s = s
          have h4 : ∀ d, fr + d < k → col fr + d ≤ col (fr + d) := by
            intro d
            induction d with
            | zero => intro _; exact Nat.le_refl _
            | succ d ih => intro hd; have := e2.asc (fr + d) (fr + (d + 1)) (by omega) (by omega); have := ih (by omega); omega
          have h5 := h4 (k - 1 - fr) (by omega)
          have h6 := e2.lt (k - 1) (by omega)
          rw [show fr + (k - 1 - fr) = k - 1 by omega] at h5
          exact h3 hc (by omega)
        · omega
    rw [ret_bind, ret_mkL]
    refine ⟨by omega, by omega, ?_⟩
    rw [Int.toNat_natCast, ret_bind, ret_set, Int.toNat_natCast]
    refine ⟨by omega, by rw [List.length_replicate]; omega, ?_⟩
    have hz : Ln (List.replicate w (0 : Int)) w (fun _ => 0) := ⟨List.length_replicate .., fun c hc => by rw [List.getElem?_replicate, if_pos hc]⟩
    have hz1 := hz.set hfr 1
    rw [ret_bind]
    -- the pivots' places are filled, one by one
    refine (ret_loop (Post := fun v => ∃ f : Nat → Int, Ln v w f ∧ (∀ c, c < w → 0 ≤ f c ∧ f c < p) ∧ f fr = 1 ∧ (∀ s, s < k → f (col s) = (- B s fr) % p) ∧ ∀ j, j < w → j ≠ fr → (∀ s, s < k → col s ≠ j) → f j = 0) k (fun m (s : List Int × Int) => s.2 = (m : Int) ∧ ∃ f : Nat → Int, Ln s.1 w f ∧ (∀ c, c < w → 0 ≤ f c ∧ f c < p) ∧ f fr = 1 ∧ (∀ s, s < m → f (col s) = (- B s fr) % p) ∧ ∀ j, j < w → j ≠ fr → (∀ s, s < m → col s ≠ j) → f j = 0) ⟨rfl, _, hz1, fun c hc => by split <;> omega, by rw [if_pos rfl], fun s h => absurd h (by omega), fun j _ hj _ => by rw [if_neg hj]⟩ ?_ (by omega)).mono ?_
    · rintro m ⟨v, _⟩ hmk ⟨rfl, f, f1, f2, f3, f4, f5⟩
      unfold modular_Kernel_l4
      simp only at f1 ⊢
      rw [ret_if, e4.1]
      refine ⟨fun hlt => ?_, fun hge => ⟨_, rfl, f, f1, f2, f3, by have : m = k := (by omega); exact this ▸ f4, by have : m = k := (by omega); exact this ▸ f5⟩⟩
      have hmk : m < k := by omega
      have hcm : col m < w := e2.lt m hmk
      rw [ret_bind, ret_get]
      refine ⟨by omega, by rw [e4.1]; omega, fun x hx => ?_⟩
      rw [Int.toNat_natCast, e4.2 m (by omega)] at hx
      obtain rfl := Option.some.inj hx
      have hmn : m < n := by have := e2.kn; omega
      rw [ret_bind]; refine e1.get hmn fun l _ hl => ?_
      rw [ret_bind]; refine hl.get hfr ?_
      have hb := e2.rng m fr hmn hfr
      have hneg : wneg .i64 (B m fr) = - B m fr := IntWalk.i64_in _ ⟨by omega, by omega⟩
      rw [hneg, mod_ok (by omega) hm, obs, ret_bind, ret_set, Int.toNat_natCast]
      refine ⟨by omega, by rw [f1.1]; omega, _, rfl, by omega, by show wa .i64 (m : Int) 1 = _; rw [wa_i (by omega) (by omega)]; rfl, _, f1.set hcm _, fun c hc => ?_, ?_, fun s hs => ?_, fun j hj hj2 hj3 => ?_⟩
      · split
        · exact mod_rng _ (by omega)
        · exact f2 c hc
      · rw [if_neg (Ne.symm (hno m hmk))]; exact f3
      · by_cases e : s = m
        · rw [e, if_pos rfl]
        · have := e2.asc s m (by omega) hmk
          rw [if_neg (by omega)]; exact f4 s (by omega)
      · rw [if_neg (Ne.symm (hj3 m (by omega)))]; exact f5 j hj hj2 fun s hs => hj3 s (by omega)
    · rintro v ⟨f, f1, f2, f3, f4, f5⟩
      refine ⟨_, rfl, rfl, .inr ⟨hk, f, f1, f2, ?_, fr, hfr, f3⟩⟩
      exact e2.kernel hfr hno f3 (fun s hs => by rw [f4 s hs]; exact Cg.mod p _) f5
end
end Km
