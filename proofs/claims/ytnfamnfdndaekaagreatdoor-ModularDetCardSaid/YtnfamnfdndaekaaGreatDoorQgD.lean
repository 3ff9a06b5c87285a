/- Checks, reduced copies, kernel, rank and solution: what the program's functions return. -/
import Derived.KernelRfl
import Derived.Test.YtnfamnfdndaekaaGreatDoorQgC
namespace Km
open Sx Go M Vc Dt
set_option linter.unusedVariables false
set_option linter.unusedSimpArgs false
set_option maxHeartbeats 4000000
theorem sqb {i : Int} (h2 : 2 ≤ i) (h3 : i ≤ 46342) : 0 ≤ i * i ∧ i * i ≤ 46342 * 46342 := ⟨Int.mul_nonneg (by omega) (by omega), Int.mul_le_mul h3 h3 (by omega) (by omega)⟩
theorem isPrime_ok {p : Int} (hP : PP p) : modular_IsPrime p = some true := by
  have hp := hP.two
  have hm := hP.max
  refine Ret.eq ?_
  unfold modular_IsPrime
  rw [ret_if]
  refine ⟨fun h => ?_, fun _ => ?_⟩
  · simp only [Bool.or_eq_true, decide_eq_true_eq] at h; omega
  · rw [ret_bind]
    refine (ret_loopM (Post := fun o => o = .inl ()) (fun i => 2 ≤ i ∧ i ≤ 46342) (fun i => (46342 - i).toNat) (by decide) (by decide) ?_).mono ?_
    · rintro i ⟨h2, h3⟩
      obtain ⟨h4, h5⟩ := sqb h2 h3
      unfold modular_IsPrime_l2
      rw [wm_i (by omega) (by omega)]
      split
      · rename_i hle
        have h6 : i ≤ 46341 := by
          refine Classical.byContradiction fun hc => ?_
          obtain rfl : i = 46342 := by omega
          omega
        rw [wr_nn (by omega) (by omega), obs]
        split
        · rename_i h0
          exfalso
          have hd : i ∣ p := Int.dvd_of_emod_eq_zero h0
          obtain ⟨P, rfl⟩ := Int.eq_ofNat_of_zero_le (show 0 ≤ p by omega)
          obtain ⟨I, rfl⟩ := Int.eq_ofNat_of_zero_le (show 0 ≤ i by omega)
          have hd' : I ∣ P := by exact_mod_cast hd
          have := hP.prm.div I (by simpa using hd')
          rw [Int.toNat_natCast] at this
          rcases this with e | e
          · omega
          · subst e
            have : (I : Int) * 2 ≤ (I : Int) * (I : Int) := Int.mul_le_mul_of_nonneg_left (by omega) (by omega)
            omega
        · refine ⟨_, rfl, ?_⟩
          rw [wa_i (by omega) (by omega)]
          exact ⟨⟨by omega, by omega⟩, by show (46342 - (i + 1)).toNat < (46342 - i).toNat; omega⟩
      · exact ⟨_, rfl, rfl⟩
    · rintro _ rfl
      exact ⟨_, rfl, rfl⟩
section
variable {p : Int} {n w : Nat} {T : List (List Int)} {X : Mx}
theorem columns_ok (hn : 0 < n) (hT : Tb T n w X) : modular_columns T = some (w : Int) := by
  refine Ret.eq ?_
  unfold modular_columns
  rw [ret_if, hT.1]
  refine ⟨fun h => absurd h (by omega), fun _ => ?_⟩
  rw [ret_bind]
  refine (hT.get hn (Q := fun l => l.length = w) (fun l _ hl => hl.1)).mono fun l hl => ?_
  rw [ret_some, hl]
theorem check_ok (hP : PP p) (hn : 0 < n) (hn2 : n ≤ 200) (hw : w ≤ 200) (hT : Tb T n w X) : modular_check T p = some 0 := by
  refine Ret.eq ?_
  unfold modular_check
  rw [columns_ok hn hT, obs, isPrime_ok hP, obs, if_pos rfl, ret_bind]
  have hc : slices_ContainsFunc_int T (w : Int) = some false := by
    refine Ret.eq ?_
    unfold slices_ContainsFunc_int slices_IndexFunc_int
    rw [ret_bind, ret_bind]
    refine (ret_loop (Post := fun o => o = .inl ()) n (fun k (i : Int) => i = (k : Int)) rfl ?_ (by omega)).mono ?_
    · rintro k _ hk rfl
      unfold slices_IndexFunc_int_l1 modular_check_1
      rw [ret_if, hT.1]
      refine ⟨fun hlt => ?_, fun _ => ⟨_, rfl, rfl⟩⟩
      rw [ret_bind]; refine hT.get (show k < n by omega) fun l _ hl => ?_
      rw [obs, hl.1, if_neg (by simp)]
      exact ⟨_, rfl, by omega, by rw [wa_i (by omega) (by omega)]; rfl⟩
    · rintro _ rfl
      exact ⟨_, rfl, _, rfl, rfl⟩
  rw [ret_of hc, if_neg (by simp), hT.1, if_neg (by simp; omega), ret_some]
theorem reduced_ok (hp : 0 < p) (hm : p ≤ 2147483647) (hn2 : n ≤ 1000) (hw : w ≤ 1000) (hT : Tb T n w X) : Ret (modular_reduced T p) (fun R => Tb R n w (fun r c => X r c % p)) := by
  unfold modular_reduced
  rw [ret_bind]
  refine (ret_loop (Post := fun R => Tb R n w (fun r c => X r c % p)) n (fun k (s : List (List Int) × Int) => s.2 = (k : Int) ∧ Tb s.1 k w (fun r c => X r c % p)) ⟨rfl, rfl, fun r h => absurd h (by omega)⟩ ?_ (by omega)).mono fun R h => ⟨_, rfl, h⟩
  rintro k ⟨R, _⟩ hk ⟨rfl, h⟩
  unfold modular_reduced_l3
  simp only at h ⊢
  rw [ret_if, hT.1]
  refine ⟨fun hlt => ?_, fun _ => ⟨_, rfl, by show Tb R n w _; have : k = n := (by omega); exact this ▸ h⟩⟩
  have hkn : k < n := by omega
  rw [ret_bind]; refine hT.get hkn fun l _ hl => ?_
  rw [ret_bind]
  refine (ret_loop (Post := fun o => Ln o w (fun c => X k c % p)) w (fun j (s : List Int × Int) => s.2 = (j : Int) ∧ Ln s.1 j (fun c => X k c % p)) ⟨rfl, rfl, fun c h => absurd h (by omega)⟩ ?_ (by omega)).mono fun o ho => ?_
  · rintro j ⟨o, _⟩ hj ⟨rfl, ho⟩
    unfold modular_reduced_l4
    simp only at ho ⊢
    rw [ret_if, hl.1]
    refine ⟨fun hlt => ?_, fun _ => ⟨_, rfl, by show Ln o w _; have : j = w := (by omega); exact this ▸ ho⟩⟩
    rw [ret_bind]; refine hl.get (show j < w by omega) ?_
    rw [mod_ok hp hm, obs, ret_bind, ret_app]
    refine ⟨by rw [ho.1]; simp only [List.length_cons, List.length_nil]; omega, _, rfl, by omega, by show wa .i64 (j : Int) 1 = _; rw [wa_i (by omega) (by omega)]; rfl, by show (o ++ [_]).length = j + 1; rw [List.length_append, ho.1]; rfl, fun c hc => ?_⟩
    show (o ++ [X k j % p])[c]? = _
    by_cases e : c = j
    · subst e; rw [List.getElem?_append_right (by rw [ho.1]; omega), ho.1, Nat.sub_self]; rfl
    · rw [List.getElem?_append_left (by rw [ho.1]; omega), ho.2 c (by omega)]
  · rw [ret_bind, ret_app]
    refine ⟨by rw [h.1]; simp only [List.length_cons, List.length_nil]; omega, _, rfl, by omega, by show wa .i64 (k : Int) 1 = _; rw [wa_i (by omega) (by omega)]; rfl, by show (R ++ [_]).length = k + 1; rw [List.length_append, h.1]; rfl, fun r hr => ?_⟩
    show ∃ l, (R ++ [o])[r]? = some l ∧ _
    by_cases e : r = k
    · subst e; exact ⟨o, by rw [List.getElem?_append_right (by rw [h.1]; omega), h.1, Nat.sub_self]; rfl, ho⟩
    · obtain ⟨l, h1, h2⟩ := h.2 r (by omega)
      exact ⟨l, by rw [List.getElem?_append_left (by rw [h.1]; omega)]; exact h1, h2⟩
/-- the reduced matrix -/
def Rd (p : Int) (X : Mx) : Mx := fun r c => X r c % p
theorem ech_ex (hP : PP p) (hn : 0 < n) (hn2 : n ≤ 200) (hw : w ≤ 201) (hT : Tb T n w X) : ∃ R o, modular_reduced T p = some R ∧ Tb R n w (Rd p X) ∧ modular_echelon R p = some o ∧ ∃ k B col, Ech p n w (Rd p X) o k B col w := by
  have hp := hP.two
  obtain ⟨R, h1, h2⟩ := reduced_ok (p := p) (by omega) hP.max (by omega) (by omega) hT
  obtain ⟨o, h3, h4⟩ := echelon_ok hP hn (by omega) (by omega) h2 fun r j _ _ => mod_rng _ (by omega)
  exact ⟨R, o, h1, h2, h3, h4⟩
theorem rank_eq (hP : PP p) (hn : 0 < n) (hn2 : n ≤ 200) (hw : w ≤ 200) (hT : Tb T n w X) {R : List (List Int)} {o : List (List Int) × List Int × Int} (hR : modular_reduced T p = some R) (hE : modular_echelon R p = some o) : modular_Rank T p = some ((o.2.1.length : Int), 0) := by
  unfold modular_Rank
  rw [check_ok hP hn hn2 hw hT, obs, if_pos rfl, hR, obs, hE, obs]
end
end Km
