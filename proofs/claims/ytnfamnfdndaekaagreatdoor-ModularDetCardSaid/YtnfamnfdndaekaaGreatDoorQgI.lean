/- The law ModularDet. -/
import Derived.Test.YtnfamnfdndaekaaGreatDoorQgH
namespace Km
open Sx Go M Vc Dt
set_option linter.unusedVariables false
set_option linter.unusedSimpArgs false
set_option maxHeartbeats 4000000
section
variable {p : Int} {n : Nat} {T : List (List Int)} {X Y : Mx}
theorem squareD_ok (hP : PP p) (hn : 0 < n) (hn2 : n ≤ 200) (hT : Tb T n n X) : modular_square T p = some 0 := by
  unfold modular_square
  rw [check_ok hP hn hn2 hn2 hT, obs, if_pos rfl, columns_ok hn hT, obs, obs, hT.1, if_neg (by simp)]
theorem _root_.Dt.Rre.id {B : Mx} {col : Nat → Nat} (h : Rre p n n B col n n) : ∀ s, s < n → col s = s := by
  intro s hs
  have h1 := h.ge s hs
  have h2 : ∀ d, s + d < n → col s + d ≤ col (s + d) := by
    intro d
    induction d with
    | zero => intro _; exact Nat.le_refl _
    | succ d ih => intro hd; have := h.asc (s + d) (s + (d + 1)) (by omega) (by omega); have := ih (by omega); omega
  have h3 := h2 (n - 1 - s) (by omega)
  have h4 := h.lt (n - 1) (by omega)
  rw [show s + (n - 1 - s) = n - 1 by omega] at h3
  omega
theorem det_zrow {B : Mx} {r : Nat} (hr : r < n) (hz : ∀ j, j < n → B r j = 0) : det n B = 0 := by
  have h1 := (det_am n).scale hr B 0
  rw [Int.zero_mul] at h1
  rw [← h1]
  refine det_congr fun i j hi hj => ?_
  by_cases e : i = r
  · subst e; rw [up_in, Int.zero_mul, hz j hj]
  · rw [up_out e]
/-- what Det returns -/
theorem det_ok (hP : PP p) (hn : 0 < n) (hn2 : n ≤ 200) (hT : Tb T n n X) : ∃ d R o, modular_Det T p = some (d, 0) ∧ (0 ≤ d ∧ d < p) ∧ Cg p (det n X) d ∧ modular_reduced T p = some R ∧ modular_echelon R p = some o ∧ (d ≠ 0 ↔ o.2.1.length = n) := by
  have hp := hP.two
  obtain ⟨R, o, hR, hRT, hEo, k, B, col, e1, e2, e3, e4, e5, e6, u, hu⟩ := ech_ex hP hn hn2 (by omega) hT
  have hX : Cg p (det n X) (det n (Rd p X)) := Cg.det fun i j _ _ => (Cg.mod p _).symm
  have hkn := e2.kn
  by_cases hk : k = n
  · subst hk
    refine ⟨o.2.2, R, o, ?_, e5, ?_, hR, hEo, ⟨fun _ => e4.1, fun _ h0 => ?_⟩⟩
    · unfold modular_Det
      rw [squareD_ok hP hn hn2 hT, obs, if_pos rfl, hR, obs, hEo, obs, e4.1, hT.1, if_neg (by omega)]
    · have h1 : det k B = 1 := by
        rw [← det_one k]
        refine det_congr fun i j hi hj => ?_
        have := e2.unit j i hj hi
        rw [e2.id j hj] at this
        rw [this]; rfl
      rw [h1, Int.mul_one] at e6
      exact hX.trans e6
    · rw [h0, Int.zero_mul] at hu
      have := Cg.iff.1 hu
      rw [Int.zero_emod, Int.emod_eq_of_lt (by omega) (by omega)] at this
      omega
  · refine ⟨0, R, o, ?_, ⟨by omega, by omega⟩, ?_, hR, hEo, ⟨fun h => absurd rfl h, fun h => absurd (e4.1.symm.trans h) hk⟩⟩
    · unfold modular_Det
      rw [squareD_ok hP hn hn2 hT, obs, if_pos rfl, hR, obs, hEo, obs, e4.1, hT.1, if_pos (by omega)]
    · have h1 : det n B = 0 := det_zrow (r := n - 1) (by omega) fun j hj => e2.zero (n - 1) j (by omega) (by omega) hj
      rw [h1, Int.mul_zero] at e6
      exact hX.trans e6
theorem times_ok (hP : PP p) (hn2 : n ≤ 1000) {S : List (List Int)} (hT : Tb T n n X) (hS : Tb S n n Y) : Ret (sparselaw07_times T S p) (fun O => Tb O n n (fun r c => sm n (fun j => X r j % p * (Y j c % p)) % p)) := by
  have hp := hP.two
  have hm := hP.max
  unfold sparselaw07_times
  rw [ret_bind]
  refine (ret_loop (Post := fun O => Tb O n n (fun r c => sm n (fun j => X r j % p * (Y j c % p)) % p)) n (fun k (s : List (List Int) × Int) => s.2 = (k : Int) ∧ Tb s.1 k n (fun r c => sm n (fun j => X r j % p * (Y j c % p)) % p)) ⟨rfl, rfl, fun r h => absurd h (by omega)⟩ ?_ (by omega)).mono fun O h => ⟨_, rfl, h⟩
  rintro k ⟨O, _⟩ hk ⟨rfl, h⟩
  unfold sparselaw07_times_l9
  simp only at h ⊢
  rw [ret_if, hT.1]
  refine ⟨fun hlt => ?_, fun _ => ⟨_, rfl, by show Tb O n n _; have e : k = n := (by omega); exact e ▸ h⟩⟩
  have hkn : k < n := by omega
  rw [ret_bind]
  refine (ret_loop (Post := fun o => Ln o n (fun c => sm n (fun j => X k j % p * (Y j c % p)) % p)) n (fun c (s : List Int × Int) => s.2 = (c : Int) ∧ Ln s.1 c (fun c => sm n (fun j => X k j % p * (Y j c % p)) % p)) ⟨rfl, rfl, fun c h => absurd h (by omega)⟩ ?_ (by omega)).mono fun o ho => ?_
  · rintro c ⟨o, _⟩ hc ⟨rfl, ho⟩
    unfold sparselaw07_times_l12
    simp only at ho ⊢
    rw [ret_if, hT.1]
    refine ⟨fun hlt => ?_, fun _ => ⟨_, rfl, by show Ln o n _; have e : c = n := (by omega); exact e ▸ ho⟩⟩
    have hcn : c < n := by omega
    rw [ret_bind]
    refine (ret_loop (Post := fun s => s = sm n (fun j => X k j % p * (Y j c % p)) % p) n (fun j (s : Int × Int) => s.2 = (j : Int) ∧ s.1 = sm j (fun j => X k j % p * (Y j c % p)) % p) ⟨rfl, by show (0 : Int) = 0 % p; rw [Int.zero_emod]⟩ ?_ (by omega)).mono fun s hs => ?_
    · rintro j ⟨s, _⟩ hj ⟨rfl, hs⟩
      unfold sparselaw07_times_l13
      simp only at hs ⊢
      subst hs
      rw [ret_if, hT.1]
      refine ⟨fun hlt => ?_, fun _ => ⟨_, rfl, by have e : j = n := (by omega); rw [e]; rfl⟩⟩
      have hjn : j < n := by omega
      rw [ret_bind]; refine hT.get hkn fun l _ hl => ?_
      rw [ret_bind]; refine hl.get hjn ?_
      rw [ref_mod, mod_ok (by omega) hm, obs, ret_bind]; refine hS.get hjn fun l' _ hl' => ?_
      rw [ret_bind]; refine hl'.get hcn ?_
      rw [mod_ok (by omega) hm, obs]
      have h1 := mod_rng (X k j) (show 0 < p by omega)
      have h2 := mod_rng (Y j c) (show 0 < p by omega)
      have h3 := mul_rng hm h1 h2
      have h4 := mod_rng (sm j (fun j => X k j % p * (Y j c % p))) (show 0 < p by omega)
      rw [wm_i (by omega) (by omega), wa_i (by omega) (by omega), wr_nn (by omega) (by omega), obs]
      refine ⟨_, rfl, by omega, by show wa .i64 (j : Int) 1 = _; rw [wa_i (by omega) (by omega)]; rfl, ?_⟩
      show (sm j _ % p + X k j % p * (Y j c % p)) % p = (sm j (fun j => X k j % p * (Y j c % p)) + X k j % p * (Y j c % p)) % p
      rw [Int.emod_add_emod]
    · subst hs
      rw [ret_bind, ret_app]
      refine ⟨by rw [ho.1]; simp only [List.length_cons, List.length_nil]; omega, _, rfl, by omega, by show wa .i64 (c : Int) 1 = _; rw [wa_i (by omega) (by omega)]; rfl, by show (o ++ [_]).length = c + 1; rw [List.length_append, ho.1]; rfl, fun c' hc' => ?_⟩
      show (o ++ [_])[c']? = _
      by_cases e : c' = c
      · subst e; rw [List.getElem?_append_right (by rw [ho.1]; omega), ho.1, Nat.sub_self]; rfl
      · rw [List.getElem?_append_left (by rw [ho.1]; omega), ho.2 c' (by omega)]
  · rw [ret_bind, ret_app]
    refine ⟨by rw [h.1]; simp only [List.length_cons, List.length_nil]; omega, _, rfl, by omega, by show wa .i64 (k : Int) 1 = _; rw [wa_i (by omega) (by omega)]; rfl, by show (O ++ [_]).length = k + 1; rw [List.length_append, h.1]; rfl, fun r hr => ?_⟩
    show ∃ l', (O ++ [o])[r]? = some l' ∧ _
    by_cases e : r = k
    · subst e; exact ⟨o, by rw [List.getElem?_append_right (by rw [h.1]; omega), h.1, Nat.sub_self]; rfl, ho⟩
    · obtain ⟨l', h1, h2⟩ := h.2 r (by omega)
      exact ⟨l', by rw [List.getElem?_append_left (by rw [h.1]; omega)]; exact h1, h2⟩
theorem det_nil (hP : PP p) : modular_Det [] p = some (1, 0) := by
  unfold modular_Det modular_square modular_check
  have h1 : modular_columns [] = some 0 := rfl
  have h2 : slices_ContainsFunc_int [] 0 = some false := by kernel_rfl
  have h3 : modular_reduced [] p = some [] := by
    refine Ret.eq ?_
    unfold modular_reduced
    rw [ret_bind]
    refine (ret_loop (Post := fun R => R = []) 0 (fun k (s : List (List Int) × Int) => s = ([], 0)) rfl ?_ (by omega)).mono fun R h => ⟨_, rfl, h⟩
    rintro k _ hk rfl
    exact ⟨_, rfl, rfl⟩
  have h4 : modular_echelon [] p = some ([], [], 1) := by
    refine Ret.eq ?_
    unfold modular_echelon
    rw [h1, obs, ret_bind]
    refine (ret_loop (Post := fun o => o = ([], [], 1)) 0 (fun k (s : List (List Int) × List Int × Int × Int) => s = ([], [], 1, 0)) rfl ?_ (by omega)).mono fun o h => by subst h; exact ⟨_, rfl, rfl⟩
    rintro k _ hk rfl
    exact ⟨_, rfl, rfl⟩
  rw [h1, obs, isPrime_ok hP, obs, if_pos rfl, h2, obs, if_neg (by simp), if_neg (by decide), obs, if_pos rfl, obs, obs, if_neg (by decide), obs, if_pos rfl, h3, obs, h4, obs]
  rfl
theorem rank_nil (hP : PP p) : modular_Rank [] p = some (0, 0) := by
  unfold modular_Rank modular_check
  have h1 : modular_columns [] = some 0 := rfl
  have h2 : slices_ContainsFunc_int [] 0 = some false := by kernel_rfl
  have h3 : modular_reduced [] p = some [] := by
    refine Ret.eq ?_
    unfold modular_reduced
    rw [ret_bind]
    refine (ret_loop (Post := fun R => R = []) 0 (fun k (s : List (List Int) × Int) => s = ([], 0)) rfl ?_ (by omega)).mono fun R h => ⟨_, rfl, h⟩
    rintro k _ hk rfl
    exact ⟨_, rfl, rfl⟩
  have h4 : modular_echelon [] p = some ([], [], 1) := by
    refine Ret.eq ?_
    unfold modular_echelon
    rw [h1, obs, ret_bind]
    refine (ret_loop (Post := fun o => o = ([], [], 1)) 0 (fun k (s : List (List Int) × List Int × Int × Int) => s = ([], [], 1, 0)) rfl ?_ (by omega)).mono fun o h => by subst h; exact ⟨_, rfl, rfl⟩
    rintro k _ hk rfl
    exact ⟨_, rfl, rfl⟩
  rw [h1, obs, isPrime_ok hP, obs, if_pos rfl, h2, obs, if_neg (by simp), if_neg (by decide), obs, if_pos rfl, h3, obs, h4, obs]
  rfl
end
theorem modularDet_true (l m : List Int) (n i p : Int) : sparselaw07_ModularDet l m n i p = some true := by
  refine Ret.eq ?_
  unfold sparselaw07_ModularDet
  rw [ret_if]
  refine ⟨fun _ => ?_, fun hlen => ?_⟩
  · rw [awake07, obs]; exact ⟨_, rfl, rfl⟩
  simp only [Bool.or_eq_true, decide_eq_true_eq, not_or] at hlen
  obtain ⟨q, hq, hP⟩ := prime_in p
  obtain ⟨z, hz, hz5⟩ := placeN n 5 (by omega) (by omega)
  have hp := hP.two
  have hm := hP.max
  rw [hq, obs, show (5 : Int) = ((5 : Nat) : Int) from rfl, hz, obs, ret_bind]
  refine (square_tb (l := l) z (by omega) (by omega)).mono fun T hT => ?_
  rw [ret_bind]
  refine (square_tb (l := m) z (by omega) (by omega)).mono fun S hS => ?_
  generalize (fun r c => l.getD (z * r + c) 0 : Mx) = X at hT
  generalize (fun r c => m.getD (z * r + c) 0 : Mx) = Y at hS
  rcases Nat.eq_zero_or_pos z with h0 | h0
  · subst h0
    obtain rfl : T = [] := List.eq_nil_of_length_eq_zero hT.1
    obtain rfl : S = [] := List.eq_nil_of_length_eq_zero hS.1
    have ht : sparselaw07_times [] [] q = some [] := by
      refine Ret.eq ?_
      unfold sparselaw07_times
      rw [ret_bind]
      refine (ret_loop (Post := fun R => R = []) 0 (fun k (s : List (List Int) × Int) => s = ([], 0)) rfl ?_ (by omega)).mono fun R h => ⟨_, rfl, h⟩
      rintro k _ hk rfl
      exact ⟨_, rfl, rfl⟩
    have h11 : wr (wm .i64 1 1) q = some 1 := by
      rw [wm_i (by omega) (by omega), wr_nn (by omega) (by omega), Int.emod_eq_of_lt (by omega) (by omega)]; rfl
    rw [det_nil hP, obs, obs, ht, obs, det_nil hP, obs, rank_nil hP, obs]
    simp only
    rw [h11, obs, awake07]
    exact ⟨_, rfl, rfl⟩
  · obtain ⟨d, R, o, hd, hd1, hd2, hR, hEo, hd3⟩ := det_ok hP h0 (by omega) hT
    obtain ⟨f, _, _, hf, hf1, hf2, _, _, _⟩ := det_ok hP h0 (by omega) hS
    rw [hd, obs, hf, obs, ret_bind]
    refine (times_ok hP (by omega) hT hS).mono fun O hO => ?_
    obtain ⟨h, _, _, hh, hh1, hh2, _, _, _⟩ := det_ok hP h0 (by omega) hO
    rw [hh, obs, rank_eq hP h0 (by omega) (by omega) hT hR hEo, obs]
    simp only
    rw [wmr hm hd1 hf1, obs]
    have e1 : h = d * f % q := by
      have h5 : Cg q (det z (fun r c => sm z (fun j => X r j % q * (Y j c % q)) % q)) (det z (mul z X Y)) := Cg.det fun r c _ _ => (Cg.mod q _).trans (Cg.sm fun j _ => (Cg.mod q _).mul (Cg.mod q _))
      rw [det_mul] at h5
      have h6 := (hh2.symm.trans h5).trans (hd2.mul hf2)
      exact (h6.trans (Cg.mod q _).symm).eq hh1 (mod_rng _ (by omega))
    rw [if_neg (by simp), obs, ← e1]
    have e2 : (!(decide (d = 0))) = decide (((o.2.1.length : Nat) : Int) = (z : Int)) := by
      by_cases hc : d = 0
      · have : ¬ o.2.1.length = z := fun e => hd3.2 e hc
        simp [hc]; omega
      · have := hd3.1 hc
        simp [hc, this]
    rw [e2, if_neg (by simp), ret_if]
    refine ⟨fun _ => by rw [awake07, obs]; exact ⟨_, rfl, rfl⟩, fun hz2 => ?_⟩
    have hz2 : 2 ≤ z := by omega
    have e3 : ws .i64 (z : Int) 1 = ((z - 1 : Nat) : Int) := by rw [ws_i (by omega) (by omega)]; omega
    obtain ⟨y, hy, hyz⟩ := placeN i (z - 1) (by omega) (by omega)
    have e4 : wa .i64 (y : Int) 1 = ((y + 1 : Nat) : Int) := by rw [wa_i (by omega) (by omega)]; rfl
    rw [e3, hy, obs, e4, ret_bind]
    refine hT.get (show y + 1 < z by omega) fun la _ hla => ?_
    rw [ret_bind]; refine hT.get (show y < z by omega) fun lb _ hlb => ?_
    rw [ret_bind, ret_set, Int.toNat_natCast]
    refine ⟨by omega, by rw [hT.1]; omega, ?_⟩
    rw [ret_bind, ret_set, Int.toNat_natCast]
    refine ⟨by omega, by rw [List.length_set, hT.1]; omega, ?_⟩
    have hT2 := (hT.set (show y < z by omega) hla).set (show y + 1 < z by omega) hlb
    obtain ⟨x, _, _, hx, hx1, hx2, _, _, _⟩ := det_ok hP h0 (by omega) hT2
    have e5 : det z (up (up X y (X (y + 1))) (y + 1) (X y)) = - det z X := by
      rw [← (det_am z).swap (show y < z by omega) (show y + 1 < z by omega) (by omega) X]
      refine det_congr fun r c _ _ => ?_
      unfold sw up
      by_cases h1 : r = y
      · rw [if_neg (by omega), if_pos h1, if_pos h1]
      · by_cases h2 : r = y + 1
        · rw [if_pos h2, if_neg h1, if_pos h2]
        · rw [if_neg h2, if_neg h1, if_neg h1, if_neg h2]
    rw [e5] at hx2
    have e6 : (x + d) % q = 0 := by
      have h7 := hx2.symm.add (hd2.symm)
      rw [Int.add_left_neg] at h7
      exact Cg.zero.1 h7
    rw [hx, obs]
    simp only
    rw [if_pos trivial, wa_i (by omega) (by omega), wr_nn (by omega) (by omega), obs, e6, awake07]
    exact ⟨_, rfl, rfl⟩
end Km
