/- The paper's division by one limb: each digit of the quotient is right at once. -/
import Derived.Test.YtnfamnfdndaekaaGreatDoorQzA
import Derived.Test.YtnfamnfdndaekaaGreatDoorM6
import Derived.Test.YtnfamnfdndaekaaGreatDoorVcA
import Derived.KernelRfl
import Derived.Test.YtnfamnfdndaekaaGreatDoorSxR
set_option linter.unusedVariables false
set_option linter.unusedSimpArgs false
set_option maxHeartbeats 4000000
namespace Km
open Sx Go M Vc Lm
theorem set_two {A Z : List Int} {x y D : Int} {j : Nat} (hj : A.length = j) : ((A ++ x :: y :: Z).set j D).set (j + 1) 0 = A ++ D :: 0 :: Z := by
  subst hj
  rw [List.set_append_right _ _ (Nat.le_refl _), Nat.sub_self, List.set_cons_zero, List.set_append_right _ _ (by omega), show A.length + 1 - A.length = 1 by omega]
  rfl
theorem get_one {A Z : List Int} {x y : Int} {j : Nat} (hj : A.length = j) : (A ++ x :: y :: Z)[j]? = some x ∧ (A ++ x :: y :: Z)[j + 1]? = some y := by
  subst hj
  refine ⟨by rw [List.getElem?_append_right (Nat.le_refl _), Nat.sub_self]; rfl, by rw [List.getElem?_append_right (by omega), show A.length + 1 - A.length = 1 by omega]; rfl⟩
theorem take_alg {x y q r G : Int} (hd : 4294967296 * q + r = G) (hr : 0 ≤ r ∧ r < 4294967296) (hx : 0 ≤ x ∧ x < 4294967296) (h0 : G ≤ y * 4294967296 + x) (h1 : y * 4294967296 + x - G < 4294967296) : y - q - (if x - r < 0 then 1 else 0) = 0 ∧ x - r + 4294967296 * (if x - r < 0 then 1 else 0) = y * 4294967296 + x - G := by
  split <;> omega
theorem take1_ok {A Z : List Int} {x y V g : Int} {j : Nat} (hj : A.length = j) (hjn : j ≤ 1000) (hx : 0 ≤ x ∧ x < B) (hy : 0 ≤ y ∧ y < B) (hV : 0 < V ∧ V < B) (hg : 0 ≤ g ∧ g < B) (h0 : g * V ≤ y * B + x) (h1 : y * B + x - g * V < B) :
    sparseref01_take (A ++ x :: y :: Z) [V] (j : Int) g = some (A ++ (y * B + x - g * V) :: 0 :: Z, true) := by
  have e : B = 4294967296 := rfl
  refine Ret.eq ?_
  have hgV : 0 ≤ g * V := Int.mul_nonneg hg.1 (by omega)
  have hgV2 : g * V ≤ (B - 1) * (B - 1) := Int.mul_le_mul (by omega) (by omega) (by omega) (by omega)
  have hgV3 : g * V < 18446744073709551616 := by rw [e] at hgV2; omega
  obtain ⟨u1, u2⟩ := get_one (A := A) (Z := Z) (x := x) (y := y) hj
  have hlen : (A ++ x :: y :: Z).length = j + 2 + Z.length := by simp [hj]; omega
  have hd := Int.mul_ediv_add_emod (g * V) B
  have c0 := Int.emod_nonneg (g * V) (show B ≠ 0 by omega)
  have c0' := Int.emod_lt_of_pos (g * V) (show 0 < B by omega)
  have c1 : 0 ≤ g * V / B := Int.ediv_nonneg hgV (by omega)
  have c1' : g * V / B < B := Int.ediv_lt_of_lt_mul (by omega) (by rw [e] at hgV2 ⊢; omega)
  obtain ⟨s1, s2⟩ := sub_top (v := x - g * V % B) (by omega) (by omega)
  have hyc : y - g * V / B - (if x - g * V % B < 0 then 1 else 0) = 0 ∧ x - g * V % B + B * (if x - g * V % B < 0 then 1 else 0) = y * B + x - g * V := take_alg hd ⟨c0, c0'⟩ hx h0 h1
  unfold sparseref01_take
  rw [ret_bind, ret_mkL]
  have h2 : wa .i64 (([V] : List Int).length : Int) 1 = 2 := by rw [wa_i (by simp) (by simp)]; rfl
  rw [h2]
  refine ⟨by omega, by omega, ?_⟩
  rw [show List.replicate (2 : Int).toNat (0 : Int) = [0, 0] from rfl, ret_bind]
  refine (ret_loop (Post := fun s : List Int × Int => s = ([y * B + x - g * V, 0], 0)) 2 (fun k (s : List Int × Int × Int × Int) => (k = 0 ∧ s = ([0, 0], 0, 0, 0)) ∨ (k = 1 ∧ s = ([y * B + x - g * V, 0], if x - g * V % B < 0 then 1 else 0, g * V / B, 1)) ∨ (k = 2 ∧ s.1 = [y * B + x - g * V, 0] ∧ s.2.1 = 0 ∧ s.2.2.2 = 2)) (.inl ⟨rfl, rfl⟩) ?_ (by omega)).mono ?_
  · rintro k s hk (⟨rfl, rfl⟩ | ⟨rfl, rfl⟩ | ⟨rfl, h⟩)
    · unfold sparseref01_take_l3 sparseref01_take_j5
      simp only
      rw [if_pos (by simp), if_pos (by simp), show getI [V] 0 = some V from rfl, obs, wc_u64_in (x := V) ⟨by omega, by omega⟩, wm_u64 ⟨hgV, hgV3⟩, wa_u64 (x := 0) ⟨by omega, by omega⟩, Int.zero_add, show wa .i64 0 (j : Int) = (j : Int) by rw [wa_i (by omega) (by omega)]; omega, ret_bind, ret_get]
      refine ⟨by omega, by rw [hlen]; omega, fun x' hx' => ?_⟩
      rw [Int.toNat_natCast, u1] at hx'
      obtain rfl := Option.some.inj hx'
      have hv0 : ws .u64 (ws .u64 (wc .u64 x) 0) (wand .u64 (g * V) 4294967295) = (x - g * V % B) % 18446744073709551616 := by
        rw [wc_u64_in (x := x) ⟨hx.1, by omega⟩, wand_low ⟨hgV, hgV3⟩, ws_u64, ws_u64]; omega
      rw [hv0, wc_u32, s1, wsrc63 (Int.emod_nonneg _ (by omega)), s2, wsrc32 hgV, ret_bind, ret_set]
      refine ⟨by omega, by simp, _, rfl, by omega, .inr (.inl ⟨by trivial, ?_⟩)⟩
      rw [hyc.2, wa_i (by omega) (by omega)]
      rfl
    · unfold sparseref01_take_l3 sparseref01_take_j5
      simp only
      rw [if_pos (by simp), if_neg (by simp), show wa .i64 1 (j : Int) = ((j + 1 : Nat) : Int) by rw [wa_i (by omega) (by omega)]; omega, ret_bind, ret_get]
      refine ⟨by omega, by rw [hlen]; omega, fun y' hy' => ?_⟩
      rw [Int.toNat_natCast, u2] at hy'
      obtain rfl := Option.some.inj hy'
      have hv1 : ws .u64 (ws .u64 (wc .u64 y) (if x - g * V % B < 0 then 1 else 0)) (wand .u64 (g * V / B) 4294967295) = 0 := by
        rw [wc_u64_in (x := y) ⟨hy.1, by omega⟩, wand_low ⟨c1, by omega⟩, Int.emod_eq_of_lt c1 c1', ws_u64, ws_u64]
        have := hyc.1
        revert this
        generalize (if x - g * V % B < 0 then (1 : Int) else 0) = z
        intro this
        omega
      rw [hv1, ret_bind, ret_set]
      refine ⟨by omega, by simp, _, rfl, by omega, .inr (.inr ⟨by trivial, ?_, ?_, ?_⟩)⟩
      · rfl
      · show wsrc .u64 0 63 = 0; rw [wsrc63 (by omega)]; rfl
      · show wa .i64 1 1 = 2; rw [wa_i (by omega) (by omega)]; rfl
    · obtain ⟨o, b, c, i⟩ := s
      obtain ⟨h3, h4, h5⟩ := h
      simp only at h3 h4 h5
      subst h3; subst h4; subst h5
      unfold sparseref01_take_l3
      simp only
      rw [if_neg (by simp)]
      exact ⟨_, rfl, rfl⟩
  · rintro _ rfl
    simp only
    rw [if_pos trivial, ret_bind]
    refine (ret_loop (Post := fun s : List Int => s = A ++ (y * B + x - g * V) :: 0 :: Z) 2 (fun k (s : List Int × Int) => (k = 0 ∧ s = (A ++ x :: y :: Z, 0)) ∨ (k = 1 ∧ s = ((A ++ x :: y :: Z).set j (y * B + x - g * V), 1)) ∨ (k = 2 ∧ s = (A ++ (y * B + x - g * V) :: 0 :: Z, 2))) (.inl ⟨rfl, rfl⟩) ?_ (by omega)).mono ?_
    · rintro k s hk (⟨rfl, rfl⟩ | ⟨rfl, rfl⟩ | ⟨rfl, rfl⟩)
      · unfold sparseref01_take_l4
        simp only
        rw [if_pos (by simp), show getI [y * B + x - g * V, 0] 0 = some (y * B + x - g * V) from rfl, obs, show wa .i64 0 (j : Int) = (j : Int) by rw [wa_i (by omega) (by omega)]; omega, ret_bind, ret_set, Int.toNat_natCast]
        exact ⟨by omega, by rw [hlen]; omega, _, rfl, by omega, .inr (.inl ⟨by trivial, by rw [wa_i (by omega) (by omega)]; rfl⟩)⟩
      · unfold sparseref01_take_l4
        simp only
        rw [if_pos (by simp), show getI [y * B + x - g * V, 0] 1 = some 0 from rfl, obs, show wa .i64 1 (j : Int) = ((j + 1 : Nat) : Int) by rw [wa_i (by omega) (by omega)]; omega, ret_bind, ret_set, Int.toNat_natCast]
        refine ⟨by omega, by rw [List.length_set, hlen]; omega, _, rfl, by omega, .inr (.inr ⟨by trivial, ?_⟩)⟩
        rw [set_two hj, wa_i (by omega) (by omega)]; rfl
      · unfold sparseref01_take_l4
        simp only
        rw [if_neg (by simp)]
        exact ⟨_, rfl, rfl⟩
    · rintro _ rfl
      exact ⟨_, rfl, rfl⟩
end Km
/- The paper's remainder by one limb. -/
namespace Km
open Sx Go M Vc Lm
theorem divLoop_ok {U : List Int} {p V : Int} {n : Nat} (hU : LW U) (hl : U.length = n + 1) (hn : n ≤ 1000) (hV : 0 < V ∧ V < B) (htop : U.getD n 0 < V) {q0 : List Int} (hq : LW q0) (hql : q0.length = n) :
    Ret (loop (sparseref01_divMag_l4 [p] [V]) (U, q0, (n : Int) - 1)) (fun s => s.1 = (lv U % V) :: List.replicate n 0 ∧ LW s.2 ∧ s.2.length = n) := by
  have e : B = 4294967296 := rfl
  have hUn : U[n]? = some (U.getD n 0) := by
    have : n < U.length := by omega
    rw [List.getElem?_eq_getElem this]; simp [List.getD, this]
  refine ret_loop n (fun m (s : List Int × List Int × Int) => s.2.2 = (n : Int) - 1 - m ∧ m ≤ n ∧ s.1 = U.take (n - m) ++ (lv (U.drop (n - m)) % V) :: List.replicate m 0 ∧ LW s.2.1 ∧ s.2.1.length = n) ⟨by show (n : Int) - 1 = (n : Int) - 1 - ((0 : Nat) : Int); omega, by omega, ?_, hq, hql⟩ ?_ (by omega)
  · have h1 := LW.get hU hUn
    have hd : U.drop n = [U.getD n 0] := by
      have hlt : n < U.length := by omega
      rw [List.drop_eq_getElem_cons hlt, List.drop_of_length_le (by omega)]
      congr 1
      simp [List.getD, hlt]
    show U = U.take (n - 0) ++ (lv (U.drop (n - 0)) % V) :: List.replicate 0 0
    rw [Nat.sub_zero, hd]
    simp only [lv, Int.mul_zero, Int.add_zero, List.replicate_zero]
    rw [Int.emod_eq_of_lt h1.1 htop, ← hd, List.take_append_drop]
  · rintro m ⟨u, q, _⟩ hm ⟨rfl, h1, h2, h3, h4⟩
    simp only at h2 h3 h4
    unfold sparseref01_divMag_l4
    simp only
    rw [ret_if]
    refine ⟨fun hge => ?_, fun hlt => ?_⟩
    · obtain ⟨j, hj⟩ : ∃ j : Nat, n = j + (m + 1) := ⟨n - (m + 1), by omega⟩
      have ej : (n : Int) - 1 - (m : Int) = (j : Int) := by omega
      rw [show n - m = j + 1 by omega] at h2
      rw [ej]
      have hjU : j < U.length := by omega
      obtain ⟨x, hx⟩ : ∃ x, U[j]? = some x := ⟨_, List.getElem?_eq_getElem hjU⟩
      have hxB := LW.get hU hx
      have hA : (U.take j).length = j := by rw [List.length_take]; omega
      have hu : u = U.take j ++ x :: (lv (U.drop (j + 1)) % V) :: List.replicate m 0 := by
        rw [h2, tks hx, List.append_assoc]; rfl
      have hy := Int.emod_nonneg (lv (U.drop (j + 1))) (show V ≠ 0 by omega)
      have hy2 := Int.emod_lt_of_pos (lv (U.drop (j + 1))) hV.1
      have hdx : U.drop j = x :: U.drop (j + 1) := by
        obtain ⟨a1, a2⟩ := List.getElem?_eq_some_iff.1 hx
        rw [← a2]; exact List.drop_eq_getElem_cons a1
      have hval : lv (U.drop j) % V = ((lv (U.drop (j + 1)) % V) * B + x) % V := by
        rw [hdx]
        simp only [lv]
        have h9 := Int.mul_ediv_add_emod (lv (U.drop (j + 1))) V
        have h10 : x + B * lv (U.drop (j + 1)) = ((lv (U.drop (j + 1)) % V) * B + x) + V * (B * (lv (U.drop (j + 1)) / V)) := by
          conv => lhs; rw [← h9]
          grind
        rw [h10, Int.add_mul_emod_self_left]
      generalize lv (U.drop (j + 1)) % V = y at hu hy hy2 hval
      obtain ⟨u1, u2⟩ := get_one (A := U.take j) (Z := List.replicate m 0) (x := x) (y := y) hA
      have hul : u.length = n + 1 := by rw [hu]; simp; omega
      have hy1 : y + 1 ≤ V := by omega
      have hmul : (y + 1) * B ≤ V * B := Int.mul_le_mul_of_nonneg_right hy1 (by omega)
      rw [Int.add_mul, Int.one_mul] at hmul
      have hyB : 0 ≤ y * B := Int.mul_nonneg hy (by omega)
      have hyB2 : y * B + x < 18446744073709551616 := by
        have : V * B ≤ (B - 1) * B := Int.mul_le_mul_of_nonneg_right (by omega) (by omega)
        rw [e] at this hmul ⊢
        omega
      have hd := Int.mul_ediv_add_emod (y * B + x) V
      have hD := Int.emod_nonneg (y * B + x) (show V ≠ 0 by omega)
      have hD2 := Int.emod_lt_of_pos (y * B + x) hV.1
      have hg0 : 0 ≤ (y * B + x) / V := Int.ediv_nonneg (by omega) (by omega)
      have hgB : (y * B + x) / V < B := Int.ediv_lt_of_lt_mul hV.1 (by rw [Int.mul_comm B V]; omega)
      have hcomm : (y * B + x) / V * V = V * ((y * B + x) / V) := Int.mul_comm _ _
      rw [show wa .i64 (j : Int) (([p] : List Int).length : Int) = ((j + 1 : Nat) : Int) by rw [wa_i (by simp; omega) (by simp; omega)]; rfl, ret_bind, ret_get]
      refine ⟨by omega, by omega, fun y' hy' => ?_⟩
      rw [Int.toNat_natCast, hu, u2] at hy'
      obtain rfl := Option.some.inj hy'
      rw [show ws .i64 ((j + 1 : Nat) : Int) 1 = (j : Int) by rw [ws_i (by omega) (by omega)]; omega, ret_bind, ret_get]
      refine ⟨by omega, by omega, fun x' hx' => ?_⟩
      rw [Int.toNat_natCast, hu, u1] at hx'
      obtain rfl := Option.some.inj hx'
      rw [show ws .i64 (([p] : List Int).length : Int) 1 = 0 by rw [ws_i (by simp) (by simp)]; rfl, show getI [V] 0 = some V from rfl, obs]
      have ht : wor .u64 (wslc .u64 (wc .u64 y) 32) (wc .u64 x) = y * B + x := by
        rw [wc_u64_in (x := y) ⟨hy, by omega⟩, wslc32 ⟨hy, by omega⟩, wc_u64_in ⟨hxB.1, by omega⟩, wor_hi ⟨hy, by omega⟩ hxB]
      have hwq : wq .u64 (y * B + x) (wc .u64 V) = some ((y * B + x) / V) := by
        rw [wc_u64_in ⟨by omega, by omega⟩]
        unfold wq
        rw [if_neg (by omega), Int.tdiv_eq_ediv_of_nonneg (by omega), IntWalk.u64_in _ ⟨hg0, by omega⟩]
      have him : imin ((y * B + x) / V) 4294967295 = (y * B + x) / V := by unfold imin; split <;> omega
      rw [ht, hwq, obs, him, ret_bind]
      have htk := take1_ok (A := U.take j) (Z := List.replicate m 0) hA (by omega) hxB ⟨hy, by omega⟩ hV ⟨hg0, hgB⟩ (by omega) (by omega)
      refine (ret_loop (Post := fun s : List Int × Int => s = (U.take j ++ (y * B + x - (y * B + x) / V * V) :: 0 :: List.replicate m 0, (y * B + x) / V)) 0 (fun k (s : List Int × Int) => s = (u, (y * B + x) / V)) rfl ?_ (by omega)).mono ?_
      · rintro k _ hk rfl
        unfold sparseref01_divMag_l5
        simp only
        rw [hu, htk, obs, if_pos rfl]
        exact ⟨_, rfl, rfl⟩
      · rintro _ rfl
        simp only
        rw [wc_u32_in ⟨hg0, hgB⟩, ret_bind, ret_set, Int.toNat_natCast]
        refine ⟨by omega, by omega, _, rfl, by omega, ?_⟩
        refine ⟨by show ws .i64 (j : Int) 1 = _; rw [ws_i (by omega) (by omega)]; omega, by omega, ?_, ?_, by show (q.set j _).length = n; rw [List.length_set, h4]⟩
        · show U.take j ++ _ :: 0 :: List.replicate m 0 = U.take (n - (m + 1)) ++ _ :: List.replicate (m + 1) 0
          have hDe : y * B + x - (y * B + x) / V * V = (y * B + x) % V := by omega
          rw [show n - (m + 1) = j by omega, List.replicate_succ, hval, hDe]
        · intro z hz
          rcases List.mem_or_eq_of_mem_set hz with hz | rfl
          · exact h3 z hz
          · exact ⟨hg0, hgB⟩
    · have em : m = n := by omega
      subst em
      refine ⟨_, rfl, ?_, h3, h4⟩
      rw [Nat.sub_self, List.take_zero, List.nil_append, List.drop_zero] at h2
      exact h2
end Km
/- The paper's division by one limb: quotient and remainder. -/
namespace Km
open Sx Go M Vc Lm
theorem wq0 {s : Nat} (hs : s < 32) : wqc .i64 (s : Int) 32 = 0 ∧ wrc (s : Int) 32 = (s : Int) := by
  constructor
  · show IntKind.wrap .i64 (Int.tdiv (s : Int) 32) = 0
    rw [Int.tdiv_eq_ediv_of_nonneg (by omega), Int.ediv_eq_zero_of_lt (by omega) (by omega)]; rfl
  · show Int.tmod (s : Int) 32 = _
    rw [Int.tmod_eq_emod_of_nonneg (by omega), Int.emod_eq_of_lt (by omega) (by omega)]
/-- a list of one limb at most, shifted down -/
theorem shr1_ok {l : List Int} {y : Int} {s : Nat} (hs : s < 32) (hy : 0 ≤ y ∧ y < B) (hl : l = if y = 0 then [] else [y]) : Ret (sparseref01_shr l (s : Int)) (fun r => LW r.1 ∧ r.1.length ≤ 1 ∧ lv r.1 = y / 2 ^ s) := by
  have e : B = 4294967296 := rfl
  obtain ⟨k1, k2⟩ := wq0 hs
  have hP : 0 < (2 : Int) ^ s := Int.pow_pos (by omega)
  unfold sparseref01_shr
  rw [ret_bind, k1]
  refine (ret_loop (Post := fun b : Bool => b = false) 0 (fun k (t : Bool × Int) => t = (false, 0)) rfl ?_ (by omega)).mono ?_
  · rintro k _ hk rfl
    unfold sparseref01_shr_l4
    simp only
    rw [k1, if_neg (by simp)]
    exact ⟨_, rfl, rfl⟩
  · rintro _ rfl
    by_cases hz : y = 0
    · rw [if_pos hz] at hl
      subst hl
      rw [ret_bind]
      refine (ret_loop (Post := fun b : Bool × List Int => b = (false, [])) 0 (fun k (t : Bool × List Int × Int) => t = (false, [], 0)) rfl ?_ (by omega)).mono ?_
      · rintro k _ hk rfl
        exact ⟨_, rfl, rfl⟩
      · rintro _ rfl
        refine ⟨_, rfl, by intro x hx; simp at hx, by simp, ?_⟩
        rw [hz, Int.zero_ediv]; rfl
    · rw [if_neg hz] at hl
      subst hl
      rw [ret_bind]
      refine (ret_loop (Post := fun b : Bool × List Int => b.2 = [y / 2 ^ s]) 1 (fun k (t : Bool × List Int × Int) => (k = 0 ∧ t = (false, [], 0)) ∨ (k = 1 ∧ t.2.1 = [y / 2 ^ s] ∧ t.2.2 = 1)) (.inl ⟨rfl, rfl⟩) ?_ (by omega)).mono ?_
      · rintro k t hk (⟨rfl, rfl⟩ | ⟨rfl, h1, h2⟩)
        · unfold sparseref01_shr_l15
          simp only
          rw [if_pos (by simp), show getI [y] 0 = some y from rfl, obs, show wa .i64 0 1 = 1 by rw [wa_i (by omega) (by omega)]; rfl, if_neg (by simp)]
          unfold sparseref01_shr_j16
          rw [k1, if_pos rfl, show getI [y] 0 = some y from rfl, obs, k2]
          have hsh : wshl .u32 1 (s : Int) = some (IntKind.u32.wrap (1 * 2 ^ min s 32)) := by
            unfold wshl; rw [if_neg (by omega), Int.toNat_natCast]; rfl
          rw [hsh, obs, obs]
          have fin : ∀ b : Bool, Ret (sparseref01_shr_j20 (wc .u64 y) (s : Int) [] 0 b) (VQ (fun t' : Bool × List Int × Int => 0 < 1 ∧ ((0 + 1 = 0 ∧ t' = (false, [], 0)) ∨ (True ∧ t'.2.1 = [y / 2 ^ s] ∧ t'.2.2 = 1))) (fun b : Bool × List Int => b.2 = [y / 2 ^ s])) := by
            intro b
            unfold sparseref01_shr_j20
            have hq0 : 0 ≤ y / 2 ^ s := Int.ediv_nonneg hy.1 (by omega)
            have hq1 : y / 2 ^ s ≤ y := Int.ediv_le_self _ hy.1
            have hsr : wshr .u64 (wc .u64 y) (s : Int) = some (y / 2 ^ s) := by
              rw [wc_u64_in ⟨hy.1, by omega⟩]
              unfold wshr
              rw [if_neg (by omega), Int.toNat_natCast]
              show some (y.fdiv (2 ^ min s 64)) = _
              rw [Nat.min_eq_left (by omega), Int.fdiv_eq_ediv_of_nonneg _ (by omega)]
            rw [k2, hsr, obs, wc_u32_in ⟨hq0, by omega⟩, ret_bind, ret_app]
            exact ⟨by simp, _, rfl, by omega, .inr ⟨trivial, rfl, by show wa .i64 0 1 = 1; rw [wa_i (by omega) (by omega)]; rfl⟩⟩
          split
          · exact fin true
          · exact fin false
        · obtain ⟨b, o, i⟩ := t
          simp only at h1 h2
          subst h1; subst h2
          unfold sparseref01_shr_l15
          simp only
          rw [if_neg (by simp)]
          exact ⟨_, rfl, rfl⟩
      · rintro ⟨b, o⟩ h
        simp only at h
        subst h
        have hq0 : 0 ≤ y / 2 ^ s := Int.ediv_nonneg hy.1 (by omega)
        have hq1 : y / 2 ^ s ≤ y := Int.ediv_le_self _ hy.1
        exact ⟨_, rfl, LW.one.2 ⟨hq0, by omega⟩, by simp, by simp [lv]⟩
theorem divMag1_ok {a : List Int} {p : Int} (ha : LW a) (ta : Tm a) (hn : a.length ≤ 900) (hp : 0 < p) (hB : p < B) : ∃ q r, sparseref01_divMag a [p] = some (q, r) ∧ LW q ∧ q.length ≤ 900 ∧ LW r ∧ r.length ≤ 900 ∧ lv r = lv a % p := by
  have e : B = 4294967296 := rfl
  have lp : lv [p] = p := by simp [lv]
  have h0 := lv_nn ha
  have key : Ret (sparseref01_divMag a [p]) (fun o => LW o.1 ∧ o.1.length ≤ 900 ∧ LW o.2 ∧ o.2.length ≤ 900 ∧ lv o.2 = lv a % p) := by
    unfold sparseref01_divMag
    rw [cmpMag_ok ha (lw_one hp hB) ta (tm_one hp) (by omega) (by simp), obs, lp]
    by_cases hlt : lv a < p
    · rw [if_pos hlt, if_pos (by omega)]
      exact ⟨_, rfl, by intro x hx; simp at hx, by simp, ha, by show a.length ≤ 900; omega, by rw [Int.emod_eq_of_lt h0 hlt]⟩
    · have hneg : ¬ (if lv a < p then (-1 : Int) else if p < lv a then 1 else 0) < 0 := by rw [if_neg hlt]; split <;> omega
      rw [if_neg hneg, show ws .i64 (([p] : List Int).length : Int) 1 = 0 by rw [ws_i (by simp) (by simp)]; rfl, show getI [p] 0 = some p from rfl, obs]
      obtain ⟨s, hs1, hs2, hs3⟩ := lead_ok hp hB
      have hP : 0 < (2 : Int) ^ s := Int.pow_pos (by omega)
      rw [hs1, obs, ret_bind]
      refine (shl_ok ha (by omega) hs2).mono fun U hU => ?_
      obtain ⟨hU1, hU2, hU3⟩ := hU
      rw [ret_bind]
      refine (shl_ok (lw_one hp hB) (by simp) hs2).mono fun W hW => ?_
      obtain ⟨hW1, hW2, hW3⟩ := hW
      rw [lp] at hW3
      have hVpos : 0 < p * 2 ^ s := Int.mul_pos hp hP
      have hWe : W = [p * 2 ^ s, 0] := by
        refine lv_inj hW1 ?_ (by rw [hW2]; rfl) (by rw [hW3]; simp [lv])
        intro x hx
        simp at hx
        rcases hx with rfl | rfl <;> omega
      rw [hWe, ret_bind, ret_sli]
      refine ⟨by omega, by simp, by simp, ?_⟩
      rw [show ([p * 2 ^ s, 0].take (([p] : List Int).length : Int).toNat).drop (0 : Int).toNat = [p * 2 ^ s] from rfl, if_neg (by omega)]
      unfold sparseref01_divMag_j1
      have hl1 : (([p] : List Int).length : Int) = 1 := rfl
      have han : 0 < a.length := by
        refine Nat.pos_of_ne_zero fun h => ?_
        have : a = [] := List.eq_nil_of_length_eq_zero h
        rw [this] at hlt; simp [lv] at hlt; omega
      rw [hl1, show ws .i64 (a.length : Int) 1 = (a.length : Int) - 1 by rw [ws_i (by omega) (by omega)], show wa .i64 ((a.length : Int) - 1) 1 = (a.length : Int) by rw [wa_i (by omega) (by omega)]; omega, ret_bind, ret_mkL]
      refine ⟨by omega, by omega, ?_⟩
      rw [Int.toNat_natCast, ret_bind]
      have htop : U.getD a.length 0 < p * 2 ^ s := by
        have h1 := take_of (a := U) (i := a.length)
        rw [take_all (show U.length ≤ a.length + 1 by omega), hU3] at h1
        have h2 := lv_nn (LW.take hU1 a.length)
        have h3 := lv_lt ha
        have h4 := pw_pos a.length
        have h5 : lv a * 2 ^ s < pw a.length * 2 ^ s := Int.mul_lt_mul_of_pos_right h3 hP
        have h6 : pw a.length * U.getD a.length 0 < pw a.length * 2 ^ s := by omega
        have h7 := Int.lt_of_mul_lt_mul_left h6 (Int.le_of_lt h4)
        have h8 : 1 * 2 ^ s ≤ p * 2 ^ s := Int.mul_le_mul_of_nonneg_right (by omega) (by omega)
        omega
      refine (divLoop_ok (p := p) hU1 hU2 (by omega) ⟨hVpos, hs3⟩ htop (q0 := List.replicate a.length 0) (fun x hx => by rw [List.mem_replicate] at hx; rw [hx.2]; omega) (List.length_replicate ..)).mono ?_
      rintro ⟨u, q⟩ ⟨h1, h2, h3⟩
      simp only at h1 h2 h3 ⊢
      have hyv : lv U % (p * 2 ^ s) = (lv a % p) * 2 ^ s := by
        rw [hU3, Int.mul_comm (lv a), Int.mul_comm p, Int.mul_emod_mul_of_pos _ _ hP, Int.mul_comm]
      have hy0 := Int.emod_nonneg (lv U) (show p * 2 ^ s ≠ 0 by omega)
      have hy1 := Int.emod_lt_of_pos (lv U) hVpos
      have hulw : LW u := by
        rw [h1]; intro x hx
        rcases List.mem_cons.1 hx with rfl | hx
        · exact ⟨hy0, by omega⟩
        · rw [List.mem_replicate] at hx; rw [hx.2]; omega
      have hulv : lv u = lv U % (p * 2 ^ s) := by rw [h1]; simp [lv, lv_zeros]
      have hul : u.length ≤ 1000000 := by rw [h1]; simp; omega
      have htr : trimL u = if lv U % (p * 2 ^ s) = 0 then [] else [lv U % (p * 2 ^ s)] := by
        refine tm_inj (trimL_lw hulw) ?_ (trimL_tm u) ?_ ?_
        · intro x hx; split at hx
          · simp at hx
          · simp at hx; omega
        · split
          · exact tm_nil
          · rename_i h; intro x hx; simp at hx; omega
        · rw [trimL_lv, hulv]; split
          · rename_i h; rw [h]; rfl
          · simp [lv]
      rw [trimR_ok hulw hul, obs, ret_bind]
      refine (shr1_ok hs2 ⟨hy0, by omega⟩ htr).mono fun r hr => ?_
      obtain ⟨r1, r2, r3⟩ := hr
      rw [trimR_ok h2 (by omega), obs, trimR_ok r1 (by omega), obs]
      have hlen : ∀ {l : List Int}, LW l → l.length ≤ 900 → (trimL l).length ≤ 900 := by
        intro l hl hll
        have h9 := len_le (trimL_lw hl) (trimL_tm l) (m := l.length) (by rw [trimL_lv]; exact lv_lt hl)
        omega
      refine ⟨_, rfl, trimL_lw h2, hlen h2 (by omega), trimL_lw r1, hlen r1 (by omega), ?_⟩
      show lv (trimL r.1) = _
      rw [trimL_lv, r3, hyv, Int.mul_ediv_cancel _ (by omega)]
  obtain ⟨⟨q, r⟩, h1, h2, h3, h4, h5, h6⟩ := key
  exact ⟨q, r, h1, h2, h3, h4, h5, h6⟩
end Km
/- The paper's Reduce. -/
namespace Km
open Sx Go M Vc Lm
theorem trimL_len {l : List Int} (hl : LW l) : (trimL l).length ≤ l.length := len_le (trimL_lw hl) (trimL_tm l) (by rw [trimL_lv]; exact lv_lt hl)
theorem intR_ok {r : Int} (h0 : 0 ≤ r) (h1 : r < B) {l : List Int} (hl : LW l) (ht : Tm l) (he : lv l = r) : sparseref01_Int false l = some (r, true) := by
  have e : B = 4294967296 := rfl
  have hl2 : l = if r = 0 then [] else [r] := by
    refine tm_inj hl ?_ ht ?_ ?_
    · intro x hx; split at hx
      · simp at hx
      · simp at hx; omega
    · split
      · exact tm_nil
      · rename_i h; intro x hx; simp at hx; omega
    · rw [he]; split
      · rename_i h; rw [h]; rfl
      · simp [lv]
  refine Ret.eq ?_
  unfold sparseref01_Int
  rw [norm_ok false hl (by rw [hl2]; split <;> simp), obs, trimL_of hl ht, hl2]
  simp only [Bool.false_and]
  by_cases hz : r = 0
  · subst hz
    rw [if_pos rfl, if_neg (by simp), ret_bind]
    refine (ret_loop (Post := fun u : Int => u = 0) 0 (fun k (s : Int × Int) => s = (0, 0)) rfl ?_ (by omega)).mono ?_
    · rintro k _ hk rfl
      exact ⟨_, rfl, rfl⟩
    · rintro _ rfl
      exact ⟨_, rfl, rfl⟩
  · rw [if_neg hz, if_neg (by simp), ret_bind]
    refine (ret_loop (Post := fun u : Int => u = r) 1 (fun k (s : Int × Int) => s = (if k = 0 then 0 else r, (k : Int))) rfl ?_ (by omega)).mono ?_
    · rintro k _ hk rfl
      unfold sparseref01_Int_l1
      simp only
      rw [ret_if]
      refine ⟨fun hlt => ?_, fun hge => ?_⟩
      · simp at hlt
        obtain rfl : k = 0 := by omega
        rw [ret_bind, ret_get]
        refine ⟨by omega, by simp, fun x hx => ?_⟩
        have hx : r = x := by simpa using hx
        subst hx
        have hwm : wm .i64 32 ((0 : Nat) : Int) = 0 := by rw [wm_i (by omega) (by omega)]; rfl
        have hws : wshl .u64 (wc .u64 r) 0 = some r := by
          rw [wc_u64_in ⟨h0, by omega⟩]
          unfold wshl
          rw [if_neg (by omega)]
          show some (IntKind.u64.wrap (r * 2 ^ (min (0 : Int).toNat 64))) = _
          rw [show (2 : Int) ^ (min (0 : Int).toNat 64) = 1 from rfl, Int.mul_one, IntWalk.u64_in _ ⟨h0, by omega⟩]
        rw [hwm, hws, obs]
        have hor : wor .u64 0 r = r := by
          have := wor_hi (x := 0) (y := r) ⟨by omega, by omega⟩ ⟨h0, h1⟩
          rw [Int.zero_mul, Int.zero_add] at this
          exact this
        refine ⟨_, rfl, by omega, ?_⟩
        rw [if_pos rfl, hor, if_neg (by omega), wa_i (by omega) (by omega)]
        rfl
      · simp at hge
        refine ⟨_, rfl, ?_⟩
        show (if k = 0 then (0 : Int) else r) = r
        rw [if_neg (by omega)]
    · rintro _ rfl
      rw [if_neg (by simp), if_neg (by omega)]
      refine ⟨_, rfl, ?_⟩
      rw [wc_i64_in ⟨by omega, by omega⟩]
theorem sign_ok {l : List Int} (s : Bool) (hl : LW l) (ht : Tm l) (hn : l.length ≤ 1000) : sparseref01_Sign s l = some (if l = [] then 0 else if s = true then -1 else 1) := by
  unfold sparseref01_Sign
  rw [norm_ok s hl (by omega), obs, trimL_of hl ht]
  simp only
  by_cases h : l = []
  · rw [if_pos (by rw [h]; rfl), if_pos h]
  · have hp := List.length_pos_iff.2 h
    rw [if_neg (by omega), if_neg h]
    have : decide ((0 : Int) < (l.length : Int)) = true := by simp; exact hp
    rw [this, Bool.and_true]
    split <;> rfl
theorem add_ok {a b : List Int} (s t : Bool) (ha : LW a) (hb : LW b) (hn : a.length ≤ 900) (hm : b.length ≤ 900) : Ret (sparseref01_Add s a t b) (fun r => LW r.2 ∧ Tm r.2 ∧ r.2.length ≤ 1001 ∧ (s = true → t = false → lv a < lv b → r.1 = false ∧ lv r.2 = lv b - lv a)) := by
  have la := trimL_len ha
  have lb := trimL_len hb
  have ta := trimL_lw ha
  have tb := trimL_lw hb
  have va := trimL_lv a
  have vb := trimL_lv b
  unfold sparseref01_Add
  rw [trimR_ok ha (by omega), obs, trimR_ok hb (by omega), obs, ret_if]
  have mk : ∀ (u : Bool) {r : List Int}, LW r → r.length ≤ 1001 → Ret ((sparseref01_make1 u r).bind fun r17 => some (r17.1, r17.2)) (fun x : Bool × List Int => LW x.2 ∧ Tm x.2 ∧ x.2.length ≤ 1001 ∧ lv x.2 = lv r ∧ (u = false → x.1 = false)) := by
    intro u r hr hrl
    rw [make1_ok u hr (by omega), obs]
    have := trimL_len hr
    exact ⟨_, rfl, trimL_lw hr, trimL_tm r, by show (trimL r).length ≤ 1001; omega, trimL_lv r, fun h => by rw [h]; rfl⟩
  refine ⟨fun hst => ?_, fun hst => ?_⟩
  · rw [ret_bind]
    refine (addMag_ok ta tb (by omega) (by omega)).mono fun r hr => ?_
    refine (mk s hr.1 hr.2.1).mono fun x hx => ⟨hx.1, hx.2.1, hx.2.2.1, fun h1 h2 _ => ?_⟩
    rw [h1, h2] at hst; cases hst
  · rw [cmpMag_ok ta tb (trimL_tm a) (trimL_tm b) (by omega) (by omega), obs, va, vb, ret_if]
    refine ⟨fun h => ?_, fun h => ?_⟩
    · have hle : lv b ≤ lv a := by
        refine Classical.byContradiction fun hc => ?_
        rw [if_pos (by omega)] at h; omega
      rw [ret_bind]
      have hll : (trimL b).length ≤ (trimL a).length := by
        refine Classical.byContradiction fun hc => ?_
        have := tm_len ta tb (trimL_tm a) (trimL_tm b) (by omega)
        omega
      refine (subMag_ok ta tb (by omega) hll (by omega)).mono fun r hr => ?_
      refine (mk s hr.1 hr.2.1).mono fun x hx => ⟨hx.1, hx.2.1, hx.2.2.1, fun _ _ h3 => absurd h3 (by omega)⟩
    · have hlt : lv a < lv b := by
        refine Classical.byContradiction fun hc => ?_
        rw [if_neg hc] at h
        split at h <;> omega
      rw [ret_bind]
      have hll : (trimL a).length ≤ (trimL b).length := by
        refine Classical.byContradiction fun hc => ?_
        have := tm_len tb ta (trimL_tm b) (trimL_tm a) (by omega)
        omega
      refine (subMag_ok tb ta (by omega) hll (by omega)).mono fun r hr => ?_
      refine (mk t hr.1 hr.2.1).mono fun x hx => ⟨hx.1, hx.2.1, hx.2.2.1, fun _ h2 _ => ⟨hx.2.2.2.2 h2, by rw [hx.2.2.2.1, hr.2.2, va, vb]⟩⟩
theorem reduceR_ok {s : Bool} {a : List Int} {p : Int} (ha : LW a) (hn : a.length ≤ 200) (hp : 0 < p) (hB : p < 2147483648) : sparseref07_Reduce s a p = some ((if s = true then - lv a else lv a) % p) := by
  have e : B = 4294967296 := rfl
  have hpl := lw_one hp (show p < B by omega)
  have hpt := tm_one hp
  have la := trimL_len ha
  obtain ⟨q, r, hd, q1, q2, r1, r2, r3⟩ := divMag1_ok (trimL_lw ha) (trimL_tm a) (by omega) hp (show p < B by omega)
  rw [trimL_lv] at r3
  have hr := Int.emod_nonneg (lv a) (show p ≠ 0 by omega)
  have hr2 := Int.emod_lt_of_pos (lv a) hp
  have lr := trimL_len r1
  have hrl1 : (trimL r).length ≤ 1 := len_le (trimL_lw r1) (trimL_tm r) (by rw [trimL_lv, r3]; simp [pw]; omega)
  have lp : lv [p] = p := by simp [lv]
  refine Ret.eq ?_
  unfold sparseref07_Reduce sparseref01_DivMod
  rw [fromR_ok hp (by omega), obs]
  simp only
  rw [norm_ok s ha (by omega), obs, norm_ok false hpl (by simp), obs, trimL_of hpl hpt]
  simp only [Bool.false_and]
  rw [hd, obs]
  simp only
  have hq := trimL_len q1
  rw [make1_ok _ q1 (by omega), obs, make1_ok _ r1 (by omega), obs]
  simp only
  rw [sign_ok _ (trimL_lw r1) (trimL_tm r) (by omega), obs]
  have fin : ∀ (x y : Bool) (u v : List Int), y = false → LW v → Tm v → lv v = (if s = true then - lv a else lv a) % p → Ret ((some (x, u, y, v)).bind fun r8 : Bool × List Int × Bool × List Int => (sparseref01_Int r8.2.2.1 r8.2.2.2).bind fun r16 => some r16.1) (fun z => z = (if s = true then - lv a else lv a) % p) := by
    intro x y u v hy hv tv hval
    subst hy
    have h1 := Int.emod_nonneg (if s = true then - lv a else lv a) (show p ≠ 0 by omega)
    have h2 := Int.emod_lt_of_pos (if s = true then - lv a else lv a) hp
    rw [obs]
    simp only
    rw [intR_ok h1 (by omega) hv tv hval, obs]
    exact ⟨_, rfl, rfl⟩
  by_cases hneg : s = true ∧ trimL a ≠ [] ∧ trimL r ≠ []
  · obtain ⟨hs, han, hrn⟩ := hneg
    subst hs
    have p1 := List.length_pos_iff.2 han
    have p2 := List.length_pos_iff.2 hrn
    have d1 : decide ((0 : Int) < ((trimL a).length : Int)) = true := by simp; exact p1
    have d2 : decide ((0 : Int) < ((trimL r).length : Int)) = true := by simp; exact p2
    rw [d1, d2]
    simp only [Bool.and_true, Bool.true_and]
    rw [if_neg hrn, if_pos (by simp)]
    have habs : sparseref01_Abs false [p] = some (false, [p]) := by
      unfold sparseref01_Abs
      rw [make1_ok false hpl (by simp), obs, trimL_of hpl hpt]; rfl
    have hr0 : lv r ≠ 0 := fun h => hrn ((lv_zero (trimL_lw r1) (trimL_tm r)).1 (by rw [trimL_lv]; exact h))
    obtain ⟨w, hw, w1, w2, w3, w4⟩ := add_ok (a := trimL r) (b := [p]) true false (trimL_lw r1) hpl (by omega) (by simp)
    rw [trimL_lv, lp, r3] at w4
    obtain ⟨w5, w6⟩ := w4 rfl rfl hr2
    have h1l : LW [(1 : Int)] := LW.one.2 ⟨by omega, by omega⟩
    have hneg1 : sparseref01_Neg false [1] = some (true, [1]) := by
      unfold sparseref01_Neg
      rw [make1_ok _ h1l (by simp), obs]; rfl
    have hqm : (trimL q).length ≤ 900 := by omega
    obtain ⟨z, hz, _⟩ := add_ok (a := trimL q) (b := [1]) (((!(true == false)) && decide ((0 : Int) < ((trimL q).length : Int)))) true (trimL_lw q1) h1l hqm (by simp)
    have hsub : sparseref01_Sub ((!(true == false)) && decide ((0 : Int) < ((trimL q).length : Int))) (trimL q) false [1] = some (z.1, z.2) := by
      unfold sparseref01_Sub
      rw [hneg1, obs]
      simp only
      rw [hz, obs]
    rw [habs, obs]
    simp only
    rw [hw, obs, if_neg (by simp), fromR_ok (by omega) (by omega), obs]
    simp only
    rw [hsub, obs]
    unfold sparseref01_DivMod_j4 sparseref01_DivMod_j3
    refine fin _ _ _ _ w5 w1 w2 ?_
    rw [w6, if_pos rfl]
    have hm := Int.mul_ediv_add_emod (lv a) p
    have hr0' : 0 < lv a % p := by omega
    have h8 : - lv a = (p - lv a % p) + p * (-(lv a / p) - 1) := by rw [Int.mul_sub, Int.mul_neg]; omega
    rw [h8, Int.add_mul_emod_self_left]
    exact (Int.emod_eq_of_lt (a := p - lv a % p) (b := p) (by omega) (by omega)).symm
  · have hz : (if trimL r = [] then (0 : Int) else if ((s && decide ((0 : Int) < ((trimL a).length : Int))) && decide ((0 : Int) < ((trimL r).length : Int))) = true then -1 else 1) = 0 ∨ (if trimL r = [] then (0 : Int) else if ((s && decide ((0 : Int) < ((trimL a).length : Int))) && decide ((0 : Int) < ((trimL r).length : Int))) = true then -1 else 1) = 1 := by
      split
      · exact .inl rfl
      · rename_i h1
        rw [if_neg]
        · exact .inr rfl
        · simp only [Bool.and_eq_true, decide_eq_true_eq]
          rintro ⟨⟨h2, h3⟩, _⟩
          exact hneg ⟨h2, fun h => by rw [h] at h3; simp at h3, h1⟩
    rw [if_neg (by omega)]
    unfold sparseref01_DivMod_j3
    refine fin _ _ _ _ ?_ (trimL_lw r1) (trimL_tm r) ?_
    · cases hc : ((s && decide ((0 : Int) < ((trimL a).length : Int))) && decide ((0 : Int) < ((trimL r).length : Int))) with
      | false => rfl
      | true =>
        exfalso
        simp only [Bool.and_eq_true, decide_eq_true_eq] at hc
        obtain ⟨⟨h2, h3⟩, h4⟩ := hc
        exact hneg ⟨h2, fun h => by rw [h] at h3; simp at h3, fun h => by rw [h] at h4; simp at h4⟩
    · rw [trimL_lv, r3]
      by_cases hs : s = true
      · rw [if_pos hs]
        have hz0 : lv a % p = 0 := by
          by_cases h1 : trimL a = []
          · have : lv a = 0 := by rw [← trimL_lv, h1]; rfl
            rw [this, Int.zero_emod]
          · have h2 : trimL r = [] := Classical.byContradiction fun h => hneg ⟨hs, h1, h⟩
            rw [← r3, ← trimL_lv, h2]; rfl
        rw [hz0, Int.neg_emod, if_pos (Int.dvd_of_emod_eq_zero hz0)]
      · rw [if_neg hs]
end Km
/- Remainders, powers, inverses, rows and tables: what the program's small loops compute. -/
namespace Km
open Sx Go M Vc Dt
/-- a loop that comes to an end -/
theorem ret_loopM {τ ρ : Type} {step : τ → Option (τ ⊕ ρ)} {Post : ρ → Prop} (I : τ → Prop) (μ : τ → Nat) {s : τ} (h0 : I s) (hμ : μ s < 1099511627776)
    (h : ∀ t, I t → Ret (step t) (VQ (fun t' => I t' ∧ μ t' < μ t) Post)) : Ret (loop step s) Post := by
  have key : ∀ (fuel : Nat) (t : τ), μ t < fuel → I t → Ret (loopN step fuel t) Post := by
    intro fuel
    induction fuel with
    | zero => intro t h1; omega
    | succ n ih =>
      intro t h1 h2
      obtain ⟨x, hx, h3⟩ := h t h2
      cases x with
      | inr r => exact ⟨r, by simp [loopN, hx], h3⟩
      | inl t' =>
        obtain ⟨h4, h5⟩ := h3
        obtain ⟨y, hy, hp⟩ := ih t' (by omega) h4
        exact ⟨y, by simp [loopN, hx, hy], hp⟩
  exact key FUEL s hμ h0
/-- a modulus -/
structure PP (p : Int) : Prop where
  two : 2 ≤ p
  max : p ≤ 2147483647
  prm : Nt.Prm p.toNat
theorem tmod_nn {x p : Int} (h : 0 ≤ x) : x.tmod p = x % p := Int.tmod_eq_emod_of_nonneg h
theorem wr_nn {x p : Int} (h : 0 ≤ x) (hp : 0 < p) : wr x p = some (x % p) := by
  unfold wr; rw [if_neg (by omega), tmod_nn h]
theorem mod_rng {p : Int} (x : Int) (hp : 0 < p) : 0 ≤ x % p ∧ x % p < p := ⟨Int.emod_nonneg _ (by omega), Int.emod_lt_of_pos _ hp⟩
theorem emod_of {a p z k : Int} (h : a = z + p * k) (h0 : 0 ≤ z) (h1 : z < p) : z = a % p := by rw [h, Int.add_mul_emod_self_left, Int.emod_eq_of_lt h0 h1]
theorem mod_ok {a p : Int} (hp : 0 < p) (hm : p ≤ 2147483647) : modular_mod a p = some (a % p) := by
  unfold modular_mod wr modular_mod_j1
  rw [if_neg (by omega), obs]
  have h1 := Int.lt_tmod_of_pos a hp
  have h2 := Int.tmod_lt_of_pos a hp
  have h3 := Int.mul_tdiv_add_tmod a p
  split
  · rw [wa_i (by omega) (by omega)]
    refine congrArg some (emod_of (k := a.tdiv p - 1) ?_ (by omega) (by omega))
    rw [Int.mul_sub]; omega
  · exact congrArg some (emod_of (k := a.tdiv p) (by omega) (by omega) h2)
theorem ref_mod : sparseref07_Mod = modular_mod := rfl
theorem mul_rng {p x y : Int} (hm : p ≤ 2147483647) (hx : 0 ≤ x ∧ x < p) (hy : 0 ≤ y ∧ y < p) : 0 ≤ x * y ∧ x * y ≤ 4611686014132420609 :=
  ⟨Int.mul_nonneg hx.1 hy.1, by have := Int.mul_le_mul (show x ≤ 2147483647 by omega) (show y ≤ 2147483647 by omega) hy.1 (by omega); omega⟩
theorem wmr {p x y : Int} (hm : p ≤ 2147483647) (hx : 0 ≤ x ∧ x < p) (hy : 0 ≤ y ∧ y < p) : wr (wm .i64 x y) p = some (x * y % p) := by
  have := mul_rng hm hx hy
  rw [wm_i (by omega) (by omega), wr_nn this.1 (by omega)]
/-- the binary power -/
theorem raise_ok {p a : Nat} (hp : 1 < p) (hm : p ≤ 2147483647) (ha : a < p) {n : Nat} (hn : n < 1099511627776) : modular_raise (a : Int) (n : Int) (p : Int) = some ((a ^ n % p : Nat) : Int) := by
  refine Ret.eq ?_
  unfold modular_raise
  rw [ret_bind]
  refine (ret_loopM (Post := fun o => o = ((a ^ n % p : Nat) : Int)) (fun (s : Int × Int × Int) => ∃ A m O : Nat, s = ((A : Int), (m : Int), (O : Int)) ∧ A < p ∧ O < p ∧ m < 1099511627776 ∧ O * A ^ m % p = a ^ n % p) (fun s => s.2.1.toNat) ⟨a, n, 1, rfl, ha, hp, hn, by rw [Nat.one_mul]⟩ (by show ((n : Int)).toNat < _; omega) ?_).mono ?_
  · rintro _ ⟨A, m, O, rfl, hA, hO, hm2, hI⟩
    unfold modular_raise_l3
    simp only
    have hAA := mul_rng (p := p) (x := A) (y := A) (by omega) ⟨by omega, by omega⟩ ⟨by omega, by omega⟩
    have hOA := mul_rng (p := p) (x := O) (y := A) (by omega) ⟨by omega, by omega⟩ ⟨by omega, by omega⟩
    have e1 : wr (wm .i64 (A : Int) (A : Int)) (p : Int) = some ((A * A % p : Nat) : Int) := by rw [wmr (by omega) ⟨by omega, by omega⟩ ⟨by omega, by omega⟩]; simp
    have e2 : wr (wm .i64 (O : Int) (A : Int)) (p : Int) = some ((O * A % p : Nat) : Int) := by rw [wmr (by omega) ⟨by omega, by omega⟩ ⟨by omega, by omega⟩]; simp
    have e3 : wrc (m : Int) 2 = ((m % 2 : Nat) : Int) := by show Int.tmod (m : Int) 2 = _; rw [tmod_nn (by omega)]; omega
    have e4 : wqc .i64 (m : Int) 2 = ((m / 2 : Nat) : Int) := by
      show IntKind.wrap .i64 (Int.tdiv (m : Int) 2) = _
      rw [Int.tdiv_eq_ediv_of_nonneg (by omega), IntWalk.i64_in _ ⟨by omega, by omega⟩]; omega
    have hlt : ∀ z : Nat, z % p < p := fun z => Nat.mod_lt _ (by omega)
    rw [ret_if]
    refine ⟨fun h0 => ?_, fun h0 => ?_⟩
    · rw [e3, ret_if]
      refine ⟨fun h1 => ?_, fun h1 => ?_⟩
      · rw [e2, obs]
        unfold modular_raise_j4
        rw [e1, obs, e4]
        refine ⟨_, rfl, ⟨_, _, _, rfl, hlt _, hlt _, by omega, ?_⟩, by show ((m / 2 : Nat) : Int).toNat < ((m : Int)).toNat; omega⟩
        rw [Nt.pow_odd (by omega)]; exact hI
      · unfold modular_raise_j4
        rw [e1, obs, e4]
        refine ⟨_, rfl, ⟨_, _, _, rfl, hlt _, hO, by omega, ?_⟩, by show ((m / 2 : Nat) : Int).toNat < ((m : Int)).toNat; omega⟩
        rw [Nt.pow_even (by omega)]; exact hI
    · refine ⟨_, rfl, ?_⟩
      obtain rfl : m = 0 := by omega
      rw [Nat.pow_zero, Nat.mul_one, Nat.mod_eq_of_lt hO] at hI
      show (O : Int) = _
      rw [hI]
  · rintro _ rfl
    exact ⟨_, rfl, rfl⟩
theorem inverse_ok {p a : Int} (hp : PP p) (ha : 0 < a ∧ a < p) : ∃ f, modular_inverse a p = some f ∧ (0 ≤ f ∧ f < p) ∧ a * f % p = 1 := by
  have h2 := hp.two
  have h3 := hp.max
  obtain ⟨P, rfl⟩ := Int.eq_ofNat_of_zero_le (show 0 ≤ p by omega)
  obtain ⟨A, rfl⟩ := Int.eq_ofNat_of_zero_le (show 0 ≤ a by omega)
  refine ⟨((A ^ (P - 2) % P : Nat) : Int), ?_, ⟨by omega, ?_⟩, ?_⟩
  · unfold modular_inverse
    rw [ws_i (by omega) (by omega), show (P : Int) - 2 = ((P - 2 : Nat) : Int) by omega, raise_ok (by omega) (by omega) (by omega) (by omega), obs]
  · have := Nat.mod_lt (A ^ (P - 2)) (show P > 0 by omega); omega
  · have := Nt.inv_ok hp.prm (a := A) (by omega) (by simpa using (show A < P by omega))
    rw [Int.toNat_natCast] at this
    exact_mod_cast this
/-- a row told by a function -/
def Ln (l : List Int) (w : Nat) (f : Nat → Int) : Prop := l.length = w ∧ ∀ c, c < w → l[c]? = some (f c)
/-- a table told by a matrix -/
def Tb (T : List (List Int)) (n w : Nat) (A : Mx) : Prop := T.length = n ∧ ∀ r, r < n → ∃ l, T[r]? = some l ∧ Ln l w (A r)
theorem Ln.congr {l : List Int} {w : Nat} {f g : Nat → Int} (h : Ln l w f) (e : ∀ c, c < w → f c = g c) : Ln l w g := ⟨h.1, fun c hc => by rw [h.2 c hc, e c hc]⟩
theorem Ln.set {l : List Int} {w : Nat} {f : Nat → Int} (h : Ln l w f) {c : Nat} (hc : c < w) (x : Int) : Ln (l.set c x) w (fun j => if j = c then x else f j) := by
  refine ⟨by rw [List.length_set]; exact h.1, fun j hj => ?_⟩
  rw [List.getElem?_set]
  by_cases e : c = j
  · subst e
    show _ = some (if c = c then x else f c)
    rw [if_pos rfl, if_pos (by rw [h.1]; exact hc), if_pos rfl]
  · show _ = some (if j = c then x else f j)
    rw [if_neg e, if_neg (Ne.symm e)]; exact h.2 j hj
theorem Tb.congr {T : List (List Int)} {n w : Nat} {A B : Mx} (h : Tb T n w A) (e : ∀ r c, r < n → c < w → A r c = B r c) : Tb T n w B := ⟨h.1, fun r hr => by obtain ⟨l, h1, h2⟩ := h.2 r hr; exact ⟨l, h1, h2.congr fun c hc => e r c hr hc⟩⟩
theorem Tb.set {T : List (List Int)} {n w : Nat} {A : Mx} (h : Tb T n w A) {k : Nat} (hk : k < n) {l : List Int} {g : Nat → Int} (hl : Ln l w g) : Tb (T.set k l) n w (up A k g) := by
  refine ⟨by rw [List.length_set]; exact h.1, fun r hr => ?_⟩
  rw [List.getElem?_set]
  by_cases e : k = r
  · subst e; rw [if_pos rfl, if_pos (by rw [h.1]; exact hk)]; exact ⟨l, rfl, hl.congr fun c _ => up_in.symm⟩
  · rw [if_neg e]; obtain ⟨m, h1, h2⟩ := h.2 r hr; exact ⟨m, h1, h2.congr fun c _ => (up_out fun e' => e e'.symm).symm⟩
theorem Ln.get {l : List Int} {w : Nat} {f : Nat → Int} (h : Ln l w f) {c : Nat} (hc : c < w) {Q : Int → Prop} (hQ : Q (f c)) : Ret (getI l (c : Int)) Q := by
  rw [ret_get]
  refine ⟨by omega, by rw [h.1]; omega, fun x hx => ?_⟩
  rw [Int.toNat_natCast, h.2 c hc] at hx
  obtain rfl := Option.some.inj hx
  exact hQ
theorem Tb.get {T : List (List Int)} {n w : Nat} {A : Mx} (h : Tb T n w A) {r : Nat} (hr : r < n) {Q : List Int → Prop} (hQ : ∀ l, T[r]? = some l → Ln l w (A r) → Q l) : Ret (getI T (r : Int)) Q := by
  rw [ret_get]
  refine ⟨by omega, by rw [h.1]; omega, fun x hx => ?_⟩
  rw [Int.toNat_natCast] at hx
  obtain ⟨l, h1, h2⟩ := h.2 r hr
  rw [h1] at hx
  obtain rfl := Option.some.inj hx
  exact hQ l h1 h2
end Km
/- Signed numbers of limbs: values, normal form, lengths. -/
namespace Km
open Sx Go M Vc Lm
def sv (s : Bool) (l : List Int) : Int := if s = true then - lv l else lv l
def Bg (v : Int) (s : Bool) (l : List Int) : Prop := LW l ∧ Tm l ∧ sv s l = v ∧ (s = true → l ≠ [])
theorem sv_trim (s : Bool) (l : List Int) : sv s (trimL l) = sv s l := by unfold sv; rw [trimL_lv]
theorem sv_not (s : Bool) (l : List Int) : sv (!s) l = - sv s l := by unfold sv; cases s <;> simp
theorem Bg.pos {v : Int} {s : Bool} {l : List Int} (h : Bg v s l) (hs : s = true) : 0 < lv l := by
  have h1 := lv_nn h.1
  have h2 : lv l ≠ 0 := fun h0 => h.2.2.2 hs ((lv_zero h.1 h.2.1).1 h0)
  omega
theorem Bg.neg {v : Int} {s : Bool} {l : List Int} (h : Bg v s l) : s = true ↔ v < 0 := by
  have h1 := lv_nn h.1
  have h3 := h.2.2.1
  constructor
  · intro hs
    have := h.pos hs
    unfold sv at h3; rw [if_pos hs] at h3; omega
  · intro hv
    refine Classical.byContradiction fun hs => ?_
    unfold sv at h3; rw [if_neg hs] at h3; omega
theorem Bg.abs {v : Int} {s : Bool} {l : List Int} (h : Bg v s l) : lv l = if v < 0 then - v else v := by
  have h3 := h.2.2.1
  by_cases hs : s = true
  · rw [if_pos (h.neg.1 hs)]; unfold sv at h3; rw [if_pos hs] at h3; omega
  · rw [if_neg fun hv => hs (h.neg.2 hv)]; unfold sv at h3; rw [if_neg hs] at h3; exact h3
theorem Bg.uniq {v : Int} {s s' : Bool} {l l' : List Int} (h : Bg v s l) (h' : Bg v s' l') : s = s' ∧ l = l' := by
  refine ⟨?_, tm_inj h.1 h'.1 h.2.1 h'.2.1 (h.abs.trans h'.abs.symm)⟩
  have e : s = true ↔ s' = true := h.neg.trans h'.neg.symm
  cases s <;> cases s' <;> simp_all
theorem Bg.len {v : Int} {s : Bool} {l : List Int} (h : Bg v s l) {m : Nat} (h1 : - pw m < v) (h2 : v < pw m) : l.length ≤ m := by
  refine len_le h.1 h.2.1 ?_
  rw [h.abs]; split <;> omega
theorem Bg.of {s : Bool} {l : List Int} (hl : LW l) (ht : Tm l) (hs : s = true → l ≠ []) : Bg (sv s l) s l := ⟨hl, ht, rfl, hs⟩
theorem Bg.cast {v w : Int} {s : Bool} {l : List Int} (h : Bg v s l) (e : v = w) : Bg w s l := e ▸ h
theorem bg_zero : Bg 0 false [] := ⟨by intro x hx; simp at hx, tm_nil, rfl, by simp⟩
theorem Bg.sv {v : Int} {s : Bool} {l : List Int} (h : Bg v s l) : sv s l = v := h.2.2.1
theorem lv_set {l : List Int} {k : Nat} {x y : Int} (hx : l[k]? = some x) : lv (l.set k y) = lv l + pw k * (y - x) := by
  have hlt := (List.getElem?_eq_some_iff.1 hx).1
  have hy : (l.set k y)[k]? = some y := by rw [List.getElem?_set_self hlt]
  rw [split_at hx, split_at hy, List.take_set, List.set_eq_of_length_le (by rw [List.length_take]; omega), List.drop_set_of_lt (by omega)]
  grind
theorem lw_set {l : List Int} (h : LW l) {k : Nat} {y : Int} (hy : 0 ≤ y ∧ y < B) : LW (l.set k y) := by
  intro z hz
  rcases List.mem_or_eq_of_mem_set hz with hz | rfl
  · exact h z hz
  · exact hy
theorem lw_zeros (n : Nat) : LW (List.replicate n 0) := fun x hx => by rw [List.mem_replicate] at hx; rw [hx.2]; unfold B; omega
theorem trim_len {l : List Int} (hl : LW l) : (trimL l).length ≤ l.length := trimL_len hl
/-- the normal form of any number -/
theorem Bg.norm {s : Bool} {l : List Int} (hl : LW l) : Bg (Km.sv s l) (if trimL l = [] then false else s) (trimL l) := by
  refine ⟨trimL_lw hl, trimL_tm l, ?_, ?_⟩
  · split
    · rename_i h
      have h0 : lv l = 0 := by rw [← trimL_lv, h]; rfl
      unfold Km.sv
      rw [if_neg (by simp), trimL_lv, h0]; split <;> simp
    · exact sv_trim s l
  · split
    · intro h; simp at h
    · rename_i h; exact fun _ => h
theorem big_bg {l : List Int} (s : Bool) (hl : LW l) (hn : l.length ≤ 1000000) : Ret (integer_big s l) (fun r => Bg (sv s l) r.1 r.2) := by
  rw [big_ok s hl hn]
  have h := Bg.norm (s := s) hl
  split
  · rename_i h0
    rw [if_pos h0, h0] at h
    exact ⟨_, rfl, h⟩
  · rename_i h0
    rw [if_neg h0] at h
    exact ⟨_, rfl, h⟩
theorem make_bg {l : List Int} (s : Bool) (hl : LW l) (hn : l.length ≤ 1000000) : Ret (sparseref01_make1 s l) (fun r => Bg (sv s l) r.1 r.2) := by
  rw [make1_ok s hl hn]
  have h := Bg.norm (s := s) hl
  by_cases h0 : trimL l = []
  · rw [if_pos h0] at h
    refine ⟨_, rfl, ?_⟩
    show Bg _ (s && decide ((0 : Int) < ((trimL l).length : Int))) (trimL l)
    have : (s && decide ((0 : Int) < ((trimL l).length : Int))) = false := by rw [h0]; simp
    rw [this]; exact h
  · rw [if_neg h0] at h
    refine ⟨_, rfl, ?_⟩
    show Bg _ (s && decide ((0 : Int) < ((trimL l).length : Int))) (trimL l)
    have hp : 0 < (trimL l).length := by
      cases hL : trimL l with
      | nil => exact absurd hL h0
      | cons a b => simp
    have : (s && decide ((0 : Int) < ((trimL l).length : Int))) = s := by
      rw [decide_eq_true (by omega), Bool.and_true]
    rw [this]; exact h
end Km
/- Signed numbers of limbs: the program's products, sums, differences, comparisons. -/
namespace Km
open Sx Go M Vc Lm
/-- within a row of the product -/
def MI (a b : List Int) (i j : Nat) (x : Int) (out : List Int) (c : Int) : Prop :=
  LW out ∧ out.length = a.length + b.length ∧ (0 ≤ c ∧ c < B) ∧ lv out + pw (i + j) * c = lv (a.take i) * lv b + pw i * (x * lv (b.take j)) ∧ out.drop (i + b.length) = List.replicate (a.length - i) 0
/-- between two rows of the product -/
def MO (a b : List Int) (i : Nat) (out : List Int) : Prop :=
  LW out ∧ out.length = a.length + b.length ∧ lv out = lv (a.take i) * lv b ∧ out.drop (i + b.length) = List.replicate (a.length - i) 0
theorem MO.start (a b : List Int) : MO a b 0 (List.replicate (a.length + b.length) 0) := by
  refine ⟨lw_zeros _, List.length_replicate .., ?_, ?_⟩
  · rw [lv_zeros, List.take_zero]; simp [lv]
  · rw [List.drop_replicate, Nat.sub_zero]; congr 1; omega
theorem MO.row {a b : List Int} {i : Nat} {out : List Int} (h : MO a b i out) (x : Int) : MI a b i 0 x out 0 :=
  ⟨h.1, h.2.1, ⟨by omega, by unfold B; omega⟩, by rw [List.take_zero]; simp only [lv, Int.mul_zero, Int.add_zero]; exact h.2.2.1, h.2.2.2⟩
theorem MI.step {a b : List Int} {i j : Nat} {x c y o : Int} {out : List Int} (h : MI a b i j x out c) (hx : 0 ≤ x ∧ x < B) (hb : LW b) (hy : b[j]? = some y) (ho : out[i + j]? = some o) :
    (0 ≤ x * y ∧ 0 ≤ o ∧ 0 ≤ y ∧ y < B ∧ o < B ∧ x * y + o + c < 18446744073709551616) ∧ MI a b i (j + 1) x (out.set (i + j) ((x * y + o + c) % B)) ((x * y + o + c) / B) := by
  obtain ⟨h1, h2, h3, h4, h5⟩ := h
  have e : B = 4294967296 := rfl
  have hyB := LW.get hb hy
  have hoB := LW.get h1 ho
  have hjl := (List.getElem?_eq_some_iff.1 hy).1
  have hxy0 := Int.mul_nonneg hx.1 hyB.1
  have hxy : x * y ≤ 4294967295 * 4294967295 := Int.mul_le_mul (by omega) (by omega) hyB.1 (by omega)
  have hm := Int.emod_nonneg (x * y + o + c) (show B ≠ 0 by omega)
  have hm2 := Int.emod_lt_of_pos (x * y + o + c) (show 0 < B by omega)
  have hd := Int.mul_ediv_add_emod (x * y + o + c) B
  have hq0 : 0 ≤ (x * y + o + c) / B := Int.ediv_nonneg (by omega) (by omega)
  have hq1 : (x * y + o + c) / B < B := Int.ediv_lt_of_lt_mul (by omega) (by rw [e]; omega)
  refine ⟨⟨hxy0, hoB.1, hyB.1, hyB.2, hoB.2, by omega⟩, lw_set h1 ⟨hm, hm2⟩, by rw [List.length_set, h2], ⟨hq0, hq1⟩, ?_, ?_⟩
  · rw [lv_set ho, take_succ hy, show i + (j + 1) = (i + j) + 1 from rfl]
    simp only [pw]
    have hp : pw (i + j) = pw i * pw j := pw_add i j
    generalize (x * y + o + c) / B = q at hd ⊢
    generalize hr : (x * y + o + c) % B = r at hd ⊢
    have e1 : lv out + pw (i + j) * (r - o) + B * pw (i + j) * q = lv out + pw (i + j) * ((B * q + r) - o) := by grind
    rw [e1, hd]
    have e2 : pw i * (x * (lv (b.take j) + pw j * y)) = pw i * (x * lv (b.take j)) + (pw i * pw j) * (x * y) := by grind
    rw [e2, ← hp]
    have e3 : pw (i + j) * (x * y + o + c - o) = pw (i + j) * (x * y) + pw (i + j) * c := by grind
    rw [e3]
    omega
  · rw [List.drop_set_of_lt (by omega)]; exact h5
theorem MI.done {a b : List Int} {i : Nat} {x c : Int} {out : List Int} (h : MI a b i b.length x out c) (hx : a[i]? = some x) : i + b.length < out.length ∧ MO a b (i + 1) (out.set (i + b.length) c) := by
  obtain ⟨h1, h2, h3, h4, h5⟩ := h
  have hil := (List.getElem?_eq_some_iff.1 hx).1
  have hz : out[i + b.length]? = some 0 := by
    have e1 : (out.drop (i + b.length))[0]? = out[i + b.length]? := by rw [List.getElem?_drop]; rfl
    rw [← e1, h5, List.getElem?_replicate, if_pos (by omega)]
  refine ⟨by omega, lw_set h1 h3, by rw [List.length_set, h2], ?_, ?_⟩
  · rw [lv_set hz, take_succ hx, Int.sub_zero]
    rw [List.take_length] at h4
    have e1 : (lv (a.take i) + pw i * x) * lv b = lv (a.take i) * lv b + pw i * (x * lv b) := by grind
    rw [e1, ← h4]
  · rw [show i + 1 + b.length = (i + b.length) + 1 by omega, List.drop_set_of_lt (by omega), ← List.drop_drop, h5, List.drop_replicate]
    congr 1
theorem times_ok {a b : List Int} (ha : LW a) (hb : LW b) (hn : a.length ≤ 400) (hm : b.length ≤ 400) : Ret (integer_times a b) (fun r => LW r ∧ Tm r ∧ lv r = lv a * lv b) := by
  unfold integer_times
  rw [ret_if]
  refine ⟨fun hz => ⟨_, rfl, by intro x hx; simp at hx, tm_nil, ?_⟩, fun hz => ?_⟩
  · simp only [Bool.or_eq_true, decide_eq_true_eq] at hz
    rcases hz with hz | hz
    · rw [show a = [] from List.eq_nil_of_length_eq_zero (by omega)]; simp [lv]
    · rw [show b = [] from List.eq_nil_of_length_eq_zero (by omega)]; simp [lv]
  rw [wa_i (by omega) (by omega), ret_bind, ret_mkL]
  refine ⟨by omega, by omega, ?_⟩
  rw [show ((a.length : Int) + (b.length : Int)).toNat = a.length + b.length by omega, ret_bind]
  refine (ret_loop (Post := fun o => MO a b a.length o) a.length (fun i (s : List Int × Int) => s.2 = (i : Int) ∧ MO a b i s.1) ⟨rfl, MO.start a b⟩ ?_ (by omega)).mono ?_
  · rintro i ⟨o, _⟩ hi ⟨rfl, hO⟩
    simp only at hO
    unfold integer_times_l4
    simp only
    rw [ret_if]
    refine ⟨fun hlt => ?_, fun hge => ⟨_, rfl, by have e : i = a.length := (by omega); subst e; exact hO⟩⟩
    rw [ret_bind, ret_get]
    refine ⟨by omega, hlt, fun x hx => ?_⟩
    rw [Int.toNat_natCast] at hx
    have hxB := LW.get ha hx
    rw [ret_bind]
    refine (ret_loop (Post := fun s : List Int × Int => MI a b i b.length x s.1 s.2) b.length (fun j (s : List Int × Int × Int) => s.2.2 = (j : Int) ∧ MI a b i j x s.1 s.2.1) ⟨rfl, hO.row x⟩ ?_ (by omega)).mono ?_
    · rintro j ⟨o, c, _⟩ hj ⟨rfl, hI⟩
      simp only at hI
      unfold integer_times_l5
      simp only
      rw [ret_if]
      refine ⟨fun hjl => ?_, fun hge => ⟨_, rfl, by have e : j = b.length := (by omega); subst e; exact hI⟩⟩
      have ho1 := hI.2.1
      rw [ret_bind, ret_get]
      refine ⟨by omega, hjl, fun y hy => ?_⟩
      rw [Int.toNat_natCast] at hy
      rw [wa_i (x := (i : Int)) (y := (j : Int)) (by omega) (by omega), ret_bind, ret_get]
      refine ⟨by omega, by omega, fun z hz => ?_⟩
      rw [show ((i : Int) + (j : Int)).toNat = i + j by omega] at hz
      obtain ⟨⟨t1, t2, t3, t4, t5, t6⟩, hN⟩ := hI.step hxB hb hy hz
      have hc := hI.2.2.1
      have e : B = 4294967296 := rfl
      have et : wa .u64 (wa .u64 (wm .u64 (wc .u64 x) (wc .u64 y)) (wc .u64 z)) c = x * y + z + c := by
        rw [wc_u64_in (x := x) ⟨hxB.1, by omega⟩, wc_u64_in (x := y) ⟨t3, by omega⟩, wc_u64_in (x := z) ⟨t2, by omega⟩, wm_u64 ⟨t1, by omega⟩, wa_u64 (x := x * y) (y := z) ⟨by omega, by omega⟩, wa_u64 ⟨by omega, by omega⟩]
      have hmm := Int.emod_nonneg (x * y + z + c) (show B ≠ 0 by omega)
      have hmm2 := Int.emod_lt_of_pos (x * y + z + c) (show 0 < B by omega)
      rw [et, wand_low ⟨by omega, t6⟩, wsrc32 (by omega), wc_u32_in ⟨hmm, hmm2⟩, ret_bind, ret_set]
      refine ⟨by omega, by omega, _, rfl, by omega, by show wa .i64 (j : Int) 1 = _; rw [wa_i (by omega) (by omega)]; rfl, ?_⟩
      rw [show ((i : Int) + (j : Int)).toNat = i + j by omega]
      exact hN
    · rintro ⟨o, c⟩ hI
      simp only at hI ⊢
      obtain ⟨hl, hN⟩ := hI.done hx
      have ho1 := hI.2.1
      rw [wa_i (x := (i : Int)) (y := (b.length : Int)) (by omega) (by omega), wc_u32_in hI.2.2.1, ret_bind, ret_set]
      refine ⟨by omega, by omega, _, rfl, by omega, by show wa .i64 (i : Int) 1 = _; rw [wa_i (by omega) (by omega)]; rfl, ?_⟩
      rw [show ((i : Int) + (b.length : Int)).toNat = i + b.length by omega]
      exact hN
  · rintro o ⟨h1, h2, h3, h4⟩
    rw [List.take_length] at h3
    rw [trim_ok h1 (by omega), obs]
    exact ⟨_, rfl, trimL_lw h1, trimL_tm _, by rw [trimL_lv]; exact h3⟩
theorem sv_neg_iff (s : Bool) (l : List Int) : sv s l = if s = true then - lv l else lv l := rfl
theorem from_bg {n : Int} (h0 : -9223372036854775808 ≤ n) (h1 : n < 9223372036854775808) : Ret (integer_FromInt n) (fun r => Bg n r.1 r.2) := by
  have e : B = 4294967296 := rfl
  have key : ∀ u : Int, 0 ≤ u → u < 18446744073709551616 → (if n < 0 then - u else u) = n → Ret (integer_FromInt_j1 n u) (fun r => Bg n r.1 r.2) := by
    intro u u0 u1 hu
    unfold integer_FromInt_j1
    have hm := Int.emod_nonneg u (show B ≠ 0 by omega)
    have hm2 := Int.emod_lt_of_pos u (show 0 < B by omega)
    have hd0 : 0 ≤ u / B := Int.ediv_nonneg u0 (by omega)
    have hd1 : u / B < B := Int.ediv_lt_of_lt_mul (by omega) (by rw [e]; omega)
    have hd := Int.mul_ediv_add_emod u B
    rw [wand_low ⟨u0, u1⟩, wsrc32 u0, wc_u32_in ⟨hm, hm2⟩, wc_u32_in ⟨hd0, hd1⟩, ret_bind]
    have hl : LW [u % B, u / B] := by
      intro x hx
      simp only [List.mem_cons, List.not_mem_nil, or_false] at hx
      rcases hx with rfl | rfl
      · exact ⟨hm, hm2⟩
      · exact ⟨hd0, hd1⟩
    refine (big_bg (decide (n < 0)) hl (by simp)).mono fun r hr => ⟨_, rfl, hr.cast ?_⟩
    have hv : lv [u % B, u / B] = u := by simp only [lv, Int.mul_zero, Int.add_zero]; omega
    unfold sv
    rw [hv]
    simpa using hu
  unfold integer_FromInt
  rw [ret_if]
  refine ⟨fun hneg => ?_, fun hpos => ?_⟩
  · have e3 : wneg .u64 (wc .u64 n) = - n := by rw [wc_u64]; unfold wneg; rw [IntKind.wrap_u64]; omega
    rw [e3]
    exact key (- n) (by omega) (by omega) (by rw [if_pos hneg]; omega)
  · rw [wc_u64_in ⟨by omega, by omega⟩]
    exact key n (by omega) (by omega) (by rw [if_neg hpos])
theorem lt_pw {l : List Int} (hl : LW l) {m : Nat} (h : l.length ≤ m) : lv l < pw m := by
  have h1 := lv_lt hl
  have h2 := pw_mono h
  omega
theorem mul_bg {s t : Bool} {a b : List Int} (ha : LW a) (hb : LW b) (hn : a.length ≤ 400) (hm : b.length ≤ 400) : Ret (integer_Mul s a t b) (fun r => Bg (sv s a * sv t b) r.1 r.2) := by
  unfold integer_Mul
  rw [trim_ok ha (by omega), obs, trim_ok hb (by omega), obs, ret_bind]
  have la := trim_len ha
  have lb := trim_len hb
  refine (times_ok (trimL_lw ha) (trimL_lw hb) (by omega) (by omega)).mono ?_
  rintro r ⟨r1, r2, r3⟩
  rw [trimL_lv, trimL_lv] at r3
  have hlen : r.length ≤ 800 := by
    refine len_le r1 r2 ?_
    have h1 := lt_pw ha hn
    have h2 := lt_pw hb hm
    have h3 := lv_nn ha
    have h4 := lv_nn hb
    rw [r3, show (800 : Nat) = 400 + 400 from rfl, pw_add]
    have h5 : lv a * lv b ≤ lv a * pw 400 := Int.mul_le_mul_of_nonneg_left (by omega) h3
    have h6 : lv a * pw 400 < pw 400 * pw 400 := Int.mul_lt_mul_of_pos_right h1 (pw_pos _)
    omega
  rw [ret_bind]
  refine (big_bg (!(s == t)) r1 (by omega)).mono fun q hq => ⟨_, rfl, hq.cast ?_⟩
  unfold sv
  rw [r3]
  cases s <;> cases t <;> simp <;> grind
theorem add_bg {s t : Bool} {a b : List Int} (ha : LW a) (hb : LW b) (hn : a.length ≤ 900) (hm : b.length ≤ 900) : Ret (integer_Add s a t b) (fun r => Bg (sv s a + sv t b) r.1 r.2) := by
  unfold integer_Add
  rw [trim_ok ha (by omega), obs, trim_ok hb (by omega), obs]
  have la := trim_len ha
  have lb := trim_len hb
  have ta := trimL_tm a
  have tb := trimL_tm b
  have wa' := trimL_lw ha
  have wb' := trimL_lw hb
  have h1 := lt_pw ha hn
  have h2 := lt_pw hb hm
  have h3 := lv_nn ha
  have h4 := lv_nn hb
  have hp : 2 * pw 900 ≤ pw 901 := by
    have := pw_pos 900
    show 2 * pw 900 ≤ B * pw 900
    unfold B; omega
  rw [ret_if]
  refine ⟨fun he => ?_, fun hne => ?_⟩
  · obtain rfl : s = t := by simpa using he
    rw [ret_bind]
    refine (plus_ok wa' wb' (by omega) (by omega)).mono ?_
    rintro r ⟨r1, r2, r3⟩
    rw [trimL_lv, trimL_lv] at r3
    have hlen : r.length ≤ 901 := len_le r1 r2 (by omega)
    rw [ret_bind]
    refine (big_bg s r1 (by omega)).mono fun q hq => ⟨_, rfl, hq.cast ?_⟩
    unfold sv
    rw [r3]
    cases s <;> simp <;> omega
  · have hst : t = !s := by cases s <;> cases t <;> simp_all
    subst hst
    rw [compare_ok wa' wb' ta tb (by omega) (by omega), obs, trimL_lv, trimL_lv, ret_if]
    refine ⟨fun hge => ?_, fun hlt => ?_⟩
    · have hab : lv b ≤ lv a := by
        refine Classical.byContradiction fun hc => ?_
        rw [if_pos (by omega)] at hge; omega
      have hll : (trimL b).length ≤ (trimL a).length := by
        refine Classical.byContradiction fun hc => ?_
        have := tm_len wa' wb' ta tb (by omega)
        rw [trimL_lv, trimL_lv] at this; omega
      rw [ret_bind]
      refine (minus_ok wa' wb' (by omega) hll (by rw [trimL_lv, trimL_lv]; exact hab)).mono ?_
      rintro r ⟨r1, r2, r3⟩
      rw [trimL_lv, trimL_lv] at r3
      have hlen : r.length ≤ 901 := len_le r1 r2 (by omega)
      rw [ret_bind]
      refine (big_bg s r1 (by omega)).mono fun q hq => ⟨_, rfl, hq.cast ?_⟩
      unfold sv
      rw [r3]
      cases s <;> simp <;> omega
    · have hab : lv a < lv b := by
        refine Classical.byContradiction fun hc => ?_
        rw [if_neg hc] at hlt
        revert hlt; split <;> omega
      have hll : (trimL a).length ≤ (trimL b).length := by
        refine Classical.byContradiction fun hc => ?_
        have := tm_len wb' wa' tb ta (by omega)
        rw [trimL_lv, trimL_lv] at this; omega
      rw [ret_bind]
      refine (minus_ok wb' wa' (by omega) hll (by rw [trimL_lv, trimL_lv]; omega)).mono ?_
      rintro r ⟨r1, r2, r3⟩
      rw [trimL_lv, trimL_lv] at r3
      have hlen : r.length ≤ 901 := len_le r1 r2 (by omega)
      rw [ret_bind]
      refine (big_bg (!s) r1 (by omega)).mono fun q hq => ⟨_, rfl, hq.cast ?_⟩
      unfold sv
      rw [r3]
      cases s <;> simp <;> omega
theorem sub_bg {s t : Bool} {a b : List Int} (ha : LW a) (hb : LW b) (hn : a.length ≤ 900) (hm : b.length ≤ 900) : Ret (integer_Sub s a t b) (fun r => Bg (sv s a - sv t b) r.1 r.2) := by
  unfold integer_Sub
  rw [ret_bind]
  refine (add_bg (s := s) (t := !t) ha hb hn hm).mono fun r hr => ⟨_, rfl, hr.cast ?_⟩
  rw [sv_not]; omega
theorem sign_bg {s : Bool} {l : List Int} (hl : LW l) (hn : l.length ≤ 1000) : integer_Sign s l = some (if sv s l < 0 then -1 else if 0 < sv s l then 1 else 0) := by
  refine Ret.eq ?_
  unfold integer_Sign
  rw [trim_ok hl (by omega), obs]
  have h0 := lv_nn hl
  have hz := lv_zero (trimL_lw hl) (trimL_tm l)
  rw [trimL_lv] at hz
  unfold sv
  rw [ret_if]
  refine ⟨fun h => ⟨_, rfl, ?_⟩, fun h => ?_⟩
  · have : lv l = 0 := hz.2 (List.eq_nil_of_length_eq_zero (by omega))
    rw [this]; cases s <;> simp
  · have : lv l ≠ 0 := fun h1 => h (by rw [hz.1 h1]; rfl)
    rw [ret_if]
    refine ⟨fun hs => ⟨_, rfl, ?_⟩, fun hs => ⟨_, rfl, ?_⟩⟩
    · rw [if_pos hs, if_pos (by omega)]
    · rw [if_neg hs, if_neg (by omega), if_pos (by omega)]
theorem cmp_bg {s t : Bool} {a b : List Int} (ha : LW a) (hb : LW b) (hn : a.length ≤ 1000) (hm : b.length ≤ 1000) : integer_Cmp s a t b = some (if sv s a < sv t b then -1 else if sv t b < sv s a then 1 else 0) := by
  refine Ret.eq ?_
  unfold integer_Cmp
  have la := trim_len ha
  have lb := trim_len hb
  have h3 := lv_nn ha
  have h4 := lv_nn hb
  rw [sign_bg ha hn, obs, sign_bg hb hm, obs, ret_if]
  refine ⟨fun h => ⟨_, rfl, ?_⟩, fun h => ?_⟩
  · revert h; split <;> split <;> (try split) <;> (try split) <;> omega
  · rw [ret_if]
    refine ⟨fun h' => ⟨_, rfl, ?_⟩, fun h' => ?_⟩
    · revert h h'; split <;> split <;> (try split) <;> (try split) <;> omega
    · rw [trim_ok ha (by omega), obs, trim_ok hb (by omega), obs, compare_ok (trimL_lw ha) (trimL_lw hb) (trimL_tm a) (trimL_tm b) (by omega) (by omega), obs, trimL_lv, trimL_lv]
      refine ⟨_, rfl, ?_⟩
      revert h h'
      unfold sv
      cases s <;> cases t <;> simp only [if_true, if_false, Bool.false_eq_true] <;> split <;> split <;> (try split) <;> (try split) <;> intro h h' <;> first | omega | (rw [wm_i (by omega) (by omega)]; omega)
end Km
/- Signed numbers of limbs: the paper's products, sums, differences, comparisons, doubling. -/
namespace Km
open Sx Go M Vc Lm
theorem mulMag_ok {a b : List Int} (ha : LW a) (hb : LW b) (hn : a.length ≤ 400) (hm : b.length ≤ 400) : Ret (sparseref01_mulMag a b) (fun r => LW r ∧ r.length = a.length + b.length ∧ lv r = lv a * lv b) := by
  unfold sparseref01_mulMag
  rw [wa_i (by omega) (by omega), ret_bind, ret_mkL]
  refine ⟨by omega, by omega, ?_⟩
  rw [show ((a.length : Int) + (b.length : Int)).toNat = a.length + b.length by omega, ret_bind]
  refine (ret_loop (Post := fun o => MO a b a.length o) a.length (fun i (s : List Int × Int) => s.2 = (i : Int) ∧ MO a b i s.1) ⟨rfl, MO.start a b⟩ ?_ (by omega)).mono ?_
  · rintro i ⟨o, _⟩ hi ⟨rfl, hO⟩
    simp only at hO
    unfold sparseref01_mulMag_l3
    simp only
    rw [ret_if]
    refine ⟨fun hlt => ?_, fun hge => ⟨_, rfl, by have e : i = a.length := (by omega); subst e; exact hO⟩⟩
    obtain ⟨x, hx⟩ : ∃ x, a[i]? = some x := ⟨a[i]'(by omega), List.getElem?_eq_getElem (by omega)⟩
    have hxB := LW.get ha hx
    rw [ret_bind]
    refine (ret_loop (Post := fun s : List Int × Int => MI a b i b.length x s.1 s.2) b.length (fun j (s : List Int × Int × Int) => s.2.2 = (j : Int) ∧ MI a b i j x s.1 s.2.1) ⟨rfl, hO.row x⟩ ?_ (by omega)).mono ?_
    · rintro j ⟨o, c, _⟩ hj ⟨rfl, hI⟩
      simp only at hI
      unfold sparseref01_mulMag_l4
      simp only
      rw [ret_if]
      refine ⟨fun hjl => ?_, fun hge => ⟨_, rfl, by have e : j = b.length := (by omega); subst e; exact hI⟩⟩
      have ho1 := hI.2.1
      rw [ret_bind, ret_get]
      refine ⟨by omega, hlt, fun x' hx' => ?_⟩
      rw [Int.toNat_natCast, hx] at hx'
      obtain rfl := Option.some.inj hx'
      rw [ret_bind, ret_get]
      refine ⟨by omega, hjl, fun y hy => ?_⟩
      rw [Int.toNat_natCast] at hy
      rw [wa_i (x := (i : Int)) (y := (j : Int)) (by omega) (by omega), ret_bind, ret_get]
      refine ⟨by omega, by omega, fun z hz => ?_⟩
      rw [show ((i : Int) + (j : Int)).toNat = i + j by omega] at hz
      obtain ⟨⟨t1, t2, t3, t4, t5, t6⟩, hN⟩ := hI.step hxB hb hy hz
      have hc := hI.2.2.1
      have e : B = 4294967296 := rfl
      have et : wa .u64 (wa .u64 c (wm .u64 (wc .u64 x) (wc .u64 y))) (wc .u64 z) = x * y + z + c := by
        rw [wc_u64_in (x := x) ⟨hxB.1, by omega⟩, wc_u64_in (x := y) ⟨t3, by omega⟩, wc_u64_in (x := z) ⟨t2, by omega⟩, wm_u64 ⟨t1, by omega⟩, wa_u64 (x := c) (y := x * y) ⟨by omega, by omega⟩, wa_u64 ⟨by omega, by omega⟩]
        omega
      rw [et, wsrc32 (by omega), wc_u32, ret_bind, ret_set]
      refine ⟨by omega, by omega, _, rfl, by omega, by show wa .i64 (j : Int) 1 = _; rw [wa_i (by omega) (by omega)]; rfl, ?_⟩
      rw [show ((i : Int) + (j : Int)).toNat = i + j by omega]
      exact hN
    · rintro ⟨o, c⟩ hI
      simp only at hI ⊢
      obtain ⟨hl, hN⟩ := hI.done hx
      have ho1 := hI.2.1
      rw [wa_i (x := (i : Int)) (y := (b.length : Int)) (by omega) (by omega), wc_u32_in hI.2.2.1, ret_bind, ret_set]
      refine ⟨by omega, by omega, _, rfl, by omega, by show wa .i64 (i : Int) 1 = _; rw [wa_i (by omega) (by omega)]; rfl, ?_⟩
      rw [show ((i : Int) + (b.length : Int)).toNat = i + b.length by omega]
      exact hN
  · rintro o ⟨h1, h2, h3, h4⟩
    rw [List.take_length] at h3
    exact ⟨_, rfl, h1, h2, h3⟩
theorem fromR_bg {n : Int} (h0 : -9223372036854775808 ≤ n) (h1 : n < 9223372036854775808) : Ret (sparseref01_FromInt n) (fun r => Bg n r.1 r.2) := by
  have e : B = 4294967296 := rfl
  have key : ∀ u : Int, 0 ≤ u → u < 18446744073709551616 → (if n < 0 then - u else u) = n → Ret (sparseref01_FromInt_j1 n u) (fun r => Bg n r.1 r.2) := by
    intro u u0 u1 hu
    unfold sparseref01_FromInt_j1
    have hm := Int.emod_nonneg u (show B ≠ 0 by omega)
    have hm2 := Int.emod_lt_of_pos u (show 0 < B by omega)
    have hd0 : 0 ≤ u / B := Int.ediv_nonneg u0 (by omega)
    have hd1 : u / B < B := Int.ediv_lt_of_lt_mul (by omega) (by rw [e]; omega)
    have hd := Int.mul_ediv_add_emod u B
    rw [wsrc32 u0, wc_u32 u, wc_u32_in ⟨hd0, hd1⟩, ret_bind]
    have hl : LW [u % B, u / B] := by
      intro x hx
      simp only [List.mem_cons, List.not_mem_nil, or_false] at hx
      rcases hx with rfl | rfl
      · exact ⟨hm, hm2⟩
      · exact ⟨hd0, hd1⟩
    refine (make_bg (decide (n < 0)) hl (by simp)).mono fun r hr => ⟨_, rfl, hr.cast ?_⟩
    have hv : lv [u % B, u / B] = u := by simp only [lv, Int.mul_zero, Int.add_zero]; omega
    unfold sv
    rw [hv]
    simpa using hu
  unfold sparseref01_FromInt
  rw [ret_if]
  refine ⟨fun hneg => ?_, fun hpos => ?_⟩
  · have e3 : wa .u64 (wc .u64 (wneg .i64 (wa .i64 n 1))) 1 = - n := by
      have e4 : wneg .i64 (wa .i64 n 1) = - (n + 1) := by
        rw [wa_i (by omega) (by omega)]
        exact IntWalk.i64_in _ ⟨by omega, by omega⟩
      rw [e4, wc_u64_in ⟨by omega, by omega⟩, wa_u64 ⟨by omega, by omega⟩]; omega
    rw [e3]
    exact key (- n) (by omega) (by omega) (by rw [if_pos hneg]; omega)
  · rw [wc_u64_in ⟨by omega, by omega⟩]
    exact key n (by omega) (by omega) (by rw [if_neg hpos])
theorem mulR_bg {s t : Bool} {a b : List Int} (ha : LW a) (hb : LW b) (hn : a.length ≤ 400) (hm : b.length ≤ 400) : Ret (sparseref01_Mul s a t b) (fun r => Bg (sv s a * sv t b) r.1 r.2) := by
  unfold sparseref01_Mul
  rw [trimR_ok ha (by omega), obs, trimR_ok hb (by omega), obs, ret_bind]
  have la := trim_len ha
  have lb := trim_len hb
  refine (mulMag_ok (trimL_lw ha) (trimL_lw hb) (by omega) (by omega)).mono ?_
  rintro r ⟨r1, r2, r3⟩
  rw [trimL_lv, trimL_lv] at r3
  rw [ret_bind]
  refine (make_bg (!(s == t)) r1 (by omega)).mono fun q hq => ⟨_, rfl, hq.cast ?_⟩
  unfold sv
  rw [r3]
  cases s <;> cases t <;> simp <;> grind
theorem addR_bg {s t : Bool} {a b : List Int} (ha : LW a) (hb : LW b) (hn : a.length ≤ 900) (hm : b.length ≤ 900) : Ret (sparseref01_Add s a t b) (fun r => Bg (sv s a + sv t b) r.1 r.2) := by
  unfold sparseref01_Add
  rw [trimR_ok ha (by omega), obs, trimR_ok hb (by omega), obs]
  have la := trim_len ha
  have lb := trim_len hb
  have ta := trimL_tm a
  have tb := trimL_tm b
  have wa' := trimL_lw ha
  have wb' := trimL_lw hb
  have h3 := lv_nn ha
  have h4 := lv_nn hb
  rw [ret_if]
  refine ⟨fun he => ?_, fun hne => ?_⟩
  · obtain rfl : s = t := by simpa using he
    rw [ret_bind]
    refine (addMag_ok wa' wb' (by omega) (by omega)).mono ?_
    rintro r ⟨r1, r2, r3⟩
    rw [trimL_lv, trimL_lv] at r3
    rw [ret_bind]
    refine (make_bg s r1 (by omega)).mono fun q hq => ⟨_, rfl, hq.cast ?_⟩
    unfold sv
    rw [r3]
    cases s <;> simp <;> omega
  · have hst : t = !s := by cases s <;> cases t <;> simp_all
    subst hst
    rw [cmpMag_ok wa' wb' ta tb (by omega) (by omega), obs, trimL_lv, trimL_lv, ret_if]
    refine ⟨fun hge => ?_, fun hlt => ?_⟩
    · have hab : lv b ≤ lv a := by
        refine Classical.byContradiction fun hc => ?_
        rw [if_pos (by omega)] at hge; omega
      have hll : (trimL b).length ≤ (trimL a).length := by
        refine Classical.byContradiction fun hc => ?_
        have := tm_len wa' wb' ta tb (by omega)
        rw [trimL_lv, trimL_lv] at this; omega
      rw [ret_bind]
      refine (subMag_ok wa' wb' (by omega) hll (by rw [trimL_lv, trimL_lv]; exact hab)).mono ?_
      rintro r ⟨r1, r2, r3⟩
      rw [trimL_lv, trimL_lv] at r3
      rw [ret_bind]
      refine (make_bg s r1 (by omega)).mono fun q hq => ⟨_, rfl, hq.cast ?_⟩
      unfold sv
      rw [r3]
      cases s <;> simp <;> omega
    · have hab : lv a < lv b := by
        refine Classical.byContradiction fun hc => ?_
        rw [if_neg hc] at hlt
        revert hlt; split <;> omega
      have hll : (trimL a).length ≤ (trimL b).length := by
        refine Classical.byContradiction fun hc => ?_
        have := tm_len wb' wa' tb ta (by omega)
        rw [trimL_lv, trimL_lv] at this; omega
      rw [ret_bind]
      refine (subMag_ok wb' wa' (by omega) hll (by rw [trimL_lv, trimL_lv]; omega)).mono ?_
      rintro r ⟨r1, r2, r3⟩
      rw [trimL_lv, trimL_lv] at r3
      rw [ret_bind]
      refine (make_bg (!s) r1 (by omega)).mono fun q hq => ⟨_, rfl, hq.cast ?_⟩
      unfold sv
      rw [r3]
      cases s <;> simp <;> omega
theorem negR_bg {s : Bool} {a : List Int} (ha : LW a) (hn : a.length ≤ 1000000) : Ret (sparseref01_Neg s a) (fun r => Bg (- sv s a) r.1 r.2 ∧ r.2.length ≤ a.length) := by
  unfold sparseref01_Neg
  rw [ret_bind]
  have h := make1_ok (!s) ha hn
  obtain ⟨q, hq, hB⟩ := make_bg (!s) ha hn
  refine ⟨q, hq, _, rfl, hB.cast (sv_not s a), ?_⟩
  rw [h] at hq
  obtain rfl := Option.some.inj hq
  exact trim_len ha
theorem subR_bg {s t : Bool} {a b : List Int} (ha : LW a) (hb : LW b) (hn : a.length ≤ 900) (hm : b.length ≤ 900) : Ret (sparseref01_Sub s a t b) (fun r => Bg (sv s a - sv t b) r.1 r.2) := by
  unfold sparseref01_Sub
  rw [ret_bind]
  refine (negR_bg (s := t) hb (by omega)).mono ?_
  rintro q ⟨hq, hl⟩
  rw [ret_bind]
  refine (addR_bg (s := s) (t := q.1) ha hq.1 hn (by omega)).mono fun r hr => ⟨_, rfl, hr.cast ?_⟩
  rw [hq.sv]; omega
theorem signR_bg {v : Int} {s : Bool} {l : List Int} (h : Bg v s l) (hn : l.length ≤ 1000) : sparseref01_Sign s l = some (if v < 0 then -1 else if 0 < v then 1 else 0) := by
  rw [sign_ok s h.1 h.2.1 hn]
  have h0 := lv_nn h.1
  have hz := lv_zero h.1 h.2.1
  have ha := h.abs
  have hg := h.neg
  by_cases hv : v < 0
  · rw [if_neg (fun e => by rw [hz.2 e] at ha; split at ha <;> omega), if_pos (hg.2 hv), if_pos hv]
  · rw [if_neg hv] at ha ⊢
    by_cases hp : 0 < v
    · rw [if_pos hp, if_neg (fun e => by rw [hz.2 e] at ha; omega), if_neg (fun e => hv (hg.1 e))]
    · rw [if_neg hp, if_pos (hz.1 (by omega))]
theorem cmpR_bg {s t : Bool} {a b : List Int} (ha : LW a) (hb : LW b) (hn : a.length ≤ 900) (hm : b.length ≤ 900) : sparseref01_Cmp s a t b = some (if sv s a < sv t b then -1 else if sv t b < sv s a then 1 else 0) := by
  refine Ret.eq ?_
  unfold sparseref01_Cmp
  rw [ret_bind]
  refine (subR_bg (s := s) (t := t) ha hb hn hm).mono fun r hr => ?_
  have h1 := lt_pw ha hn
  have h2 := lt_pw hb hm
  have h3 := lv_nn ha
  have h4 := lv_nn hb
  have hp : 2 * pw 900 ≤ pw 901 := by
    have := pw_pos 900
    show 2 * pw 900 ≤ B * pw 900
    unfold B; omega
  have hlen : r.2.length ≤ 901 := hr.len (by unfold sv; split <;> split <;> omega) (by unfold sv; split <;> split <;> omega)
  rw [signR_bg hr (by omega), obs]
  refine ⟨_, rfl, ?_⟩
  split <;> split <;> (try split) <;> (try split) <;> omega
theorem dblR_bg {s : Bool} {a : List Int} (ha : LW a) (hn : a.length ≤ 900) : Ret (sparseref01_Shift s a 1) (fun r => Bg (2 * sv s a) r.1 r.2) := by
  unfold sparseref01_Shift
  have h := norm_ok s ha (by omega)
  obtain ⟨q, hq, hB⟩ := make_bg s ha (by omega)
  have hN : sparseref01_Norm s a = some q := by unfold sparseref01_Norm; rw [hq, obs]
  have hql : q.2.length ≤ 900 := by
    rw [hN] at h
    obtain rfl := Option.some.inj h
    have := trim_len ha
    show (trimL a).length ≤ 900
    omega
  rw [hN, obs, if_pos (by omega), ret_bind]
  refine (shl_ok hB.1 (by omega) (s := 1) (by omega)).mono ?_
  rintro u ⟨u1, u2, u3⟩
  rw [ret_bind]
  refine (make_bg q.1 u1 (by omega)).mono fun r hr => ⟨_, rfl, hr.cast ?_⟩
  rw [← hB.sv]
  unfold sv
  rw [u3]
  split <;> omega
end Km
/- Chinese remainders: the numbers that both sides compute. -/
namespace Km
open Sx Go M Vc Lm Dt
def iv (p a : Int) : Int := (modular_inverse a p).getD 0
theorem iv_ok {p a : Int} (hp : PP p) (ha : 0 < a ∧ a < p) : modular_inverse a p = some (iv p a) ∧ (0 ≤ iv p a ∧ iv p a < p) ∧ a * iv p a % p = 1 := by
  obtain ⟨f, h1, h2, h3⟩ := inverse_ok hp ha
  have e : iv p a = f := by unfold iv; rw [h1]; rfl
  rw [e]
  exact ⟨h1, h2, h3⟩
def cst (res primes : List Int) : Nat → Int × Int
  | 0 => (0, 1)
  | i + 1 => ((cst res primes i).1 + (cst res primes i).2 * ((res.getD i 0 % primes.getD i 1 - (cst res primes i).1 % primes.getD i 1) % primes.getD i 1 * iv (primes.getD i 1) ((cst res primes i).2 % primes.getD i 1) % primes.getD i 1), (cst res primes i).2 * primes.getD i 1)
theorem cst_succ {res primes : List Int} {i : Nat} {r p : Int} (hr : res[i]? = some r) (hp : primes[i]? = some p) :
    cst res primes (i + 1) = ((cst res primes i).1 + (cst res primes i).2 * ((r % p - (cst res primes i).1 % p) % p * iv p ((cst res primes i).2 % p) % p), (cst res primes i).2 * p) := by
  have e1 : res.getD i 0 = r := by rw [List.getD_eq_getElem?_getD, hr]; rfl
  have e2 : primes.getD i 1 = p := by rw [List.getD_eq_getElem?_getD, hp]; rfl
  show ((cst res primes i).1 + _, _) = _
  rw [e1, e2]
theorem prm_dvd {p q : Int} (hp : PP p) (hq : PP q) (h : q ∣ p) : p = q := by
  have h2 := hp.two
  have h3 := hq.two
  obtain ⟨P, rfl⟩ := Int.eq_ofNat_of_zero_le (show 0 ≤ p by omega)
  obtain ⟨Q, rfl⟩ := Int.eq_ofNat_of_zero_le (show 0 ≤ q by omega)
  have hd : Q ∣ P := by exact_mod_cast h
  have := hp.prm.div Q (by simpa using hd)
  rw [Int.toNat_natCast] at this
  rcases this with e | e <;> omega
theorem prm_mul {p a b : Int} (hp : PP p) (ha : 0 ≤ a) (hb : 0 ≤ b) (h : p ∣ a * b) : p ∣ a ∨ p ∣ b := by
  have h2 := hp.two
  obtain ⟨P, rfl⟩ := Int.eq_ofNat_of_zero_le (show 0 ≤ p by omega)
  obtain ⟨A, rfl⟩ := Int.eq_ofNat_of_zero_le ha
  obtain ⟨C, rfl⟩ := Int.eq_ofNat_of_zero_le hb
  have hd : P ∣ A * C := by exact_mod_cast h
  have := hp.prm.euclid (by simpa using hd)
  rw [Int.toNat_natCast] at this
  rcases this with e | e
  · exact .inl (by exact_mod_cast e)
  · exact .inr (by exact_mod_cast e)
theorem prm_gcd {p n : Int} (hp : PP p) (hn : 0 ≤ n) (h : ¬ p ∣ n) : Int.gcd n p = 1 := by
  have h2 := hp.two
  obtain ⟨P, rfl⟩ := Int.eq_ofNat_of_zero_le (show 0 ≤ p by omega)
  obtain ⟨A, rfl⟩ := Int.eq_ofNat_of_zero_le hn
  have hd : ¬ P ∣ A := fun hh => h (by exact_mod_cast hh)
  have := hp.prm.cop (a := A) (by simpa using hd)
  rw [Int.toNat_natCast] at this
  rw [Int.gcd_comm]
  exact this
structure CI (res primes : List Int) (i : Nat) (X N : Int) : Prop where
  nn : 0 < N ∧ N ≤ pw i
  xx : 0 ≤ X ∧ X < N
  cg : ∀ j p r, j < i → primes[j]? = some p → res[j]? = some r → Cg p X r ∧ p ∣ N
  out : ∀ q, PP q → (∀ j p, j < i → primes[j]? = some p → p ≠ q) → ¬ q ∣ N
  all : ∀ d, (∀ j p, j < i → primes[j]? = some p → p ∣ d) → N ∣ d
theorem cst_ok {res primes : List Int} (hlen : res.length = primes.length) (hP : ∀ p, p ∈ primes → PP p) (hnd : primes.Nodup) : ∀ i, i ≤ primes.length → CI res primes i (cst res primes i).1 (cst res primes i).2 := by
  intro i
  induction i with
  | zero =>
    intro _
    refine ⟨by show (0 : Int) < 1 ∧ (1 : Int) ≤ 1; omega, by show (0 : Int) ≤ 0 ∧ (0 : Int) < 1; omega, fun j p r h => absurd h (by omega), fun q hq _ hd => ?_, fun d _ => ⟨d, by show d = 1 * d; omega⟩⟩
    have h1 := Int.le_of_dvd (by show (0 : Int) < 1; omega) hd
    have := hq.two
    have h1 : q ≤ 1 := h1
    omega
  | succ i ih =>
    intro hi
    have hI := ih (by omega)
    obtain ⟨p, hp⟩ : ∃ p, primes[i]? = some p := ⟨primes[i]'(by omega), List.getElem?_eq_getElem (by omega)⟩
    obtain ⟨r, hr⟩ : ∃ r, res[i]? = some r := ⟨res[i]'(by omega), List.getElem?_eq_getElem (by omega)⟩
    have hPp := hP p (mem_get hp)
    have h2 := hPp.two
    have h3 := hPp.max
    rw [cst_succ hr hp]
    generalize hX : (cst res primes i).1 = X at hI ⊢
    generalize hN : (cst res primes i).2 = N at hI ⊢
    have hne : ∀ j q, j < i → primes[j]? = some q → q ≠ p := by
      intro j q hj hq e
      subst e
      have hil := (List.getElem?_eq_some_iff.1 hp)
      have hjl := (List.getElem?_eq_some_iff.1 hq)
      have := (List.nodup_iff_pairwise_ne.1 hnd)
      rw [List.pairwise_iff_getElem] at this
      exact this j i hjl.1 hil.1 hj (hjl.2.trans hil.2.symm)
    have hnp := hI.out p hPp hne
    have hNp : 0 < N % p ∧ N % p < p := by
      have h4 := mod_rng N (show 0 < p by omega)
      have h5 : N % p ≠ 0 := fun h => hnp (Int.dvd_of_emod_eq_zero h)
      omega
    obtain ⟨_, hv, hv1⟩ := iv_ok hPp hNp
    generalize iv p (N % p) = v at hv hv1
    have hk := mod_rng ((r % p - X % p) % p * v) (show 0 < p by omega)
    have hkC : Cg p ((r % p - X % p) % p * v % p) ((r - X) * v) :=
      (Cg.mod p _).trans ((((Cg.mod p _).trans ((Cg.mod p r).sub (Cg.mod p X))).mul (Cg.refl p v)))
    generalize (r % p - X % p) % p * v % p = k at hk hkC
    have hpB : p ≤ B := by unfold B; omega
    have hvC : Cg p (N * v) 1 := by
      have h6 : Cg p (N * v) (N % p * v) := (Cg.mod p N).symm.mul (Cg.refl p v)
      refine h6.trans (Cg.iff.2 ?_)
      rw [hv1, Int.emod_eq_of_lt (by omega) (by omega)]
    have hn := hI.nn
    have hx := hI.xx
    have e2 : N * 1 ≤ N * p := Int.mul_le_mul_of_nonneg_left (by omega) (by omega)
    have e3 : N * k ≤ N * (p - 1) := Int.mul_le_mul_of_nonneg_left (by omega) (by omega)
    rw [Int.mul_sub] at e3
    have e4 : 0 ≤ N * k := Int.mul_nonneg (by omega) (by omega)
    refine ⟨⟨by show 0 < N * p; omega, ?_⟩, ⟨by show 0 ≤ X + N * k; omega, by show X + N * k < N * p; omega⟩, ?_, ?_, ?_⟩
    · show N * p ≤ B * pw i
      have h7 : N * p ≤ pw i * p := Int.mul_le_mul_of_nonneg_right hn.2 (by omega)
      have h8 : pw i * p ≤ pw i * B := Int.mul_le_mul_of_nonneg_left hpB (by have := pw_pos i; omega)
      rw [Int.mul_comm B]; omega
    · intro j q s hj hq hs
      by_cases e : j = i
      · subst e
        obtain rfl := Option.some.inj (hp.symm.trans hq)
        obtain rfl := Option.some.inj (hr.symm.trans hs)
        exact ⟨Nt.crt_step (by omega) hvC hkC, ⟨N, by show N * p = p * N; rw [Int.mul_comm]⟩⟩
      · obtain ⟨h8, h9⟩ := hI.cg j q s (by omega) hq hs
        exact ⟨Nt.crt_keep h9 h8, Int.dvd_trans h9 ⟨p, rfl⟩⟩
    · intro q hq hqn hd
      rcases prm_mul hq (by omega) (by omega) hd with h | h
      · exact hI.out q hq (fun j s hj hs => hqn j s (by omega) hs) h
      · exact hqn i p (by omega) hp (prm_dvd hPp hq h)
    · intro d hd
      exact Nt.cop_mul (prm_gcd hPp (by omega) hnp) (hI.all d fun j s hj hs => hd j s (by omega) hs) (hd i p (by omega) hp)
end Km
/- Combine: the program's and the paper's, for distinct primes. -/
namespace Km
open Sx Go M Vc Lm Dt
theorem inverseR_ok {p a : Int} (hp : PP p) (ha : 0 < a ∧ a < p) : sparseref07_Inverse a p = some (iv p a) := by
  have h2 := hp.two
  have h3 := hp.max
  have h := (iv_ok hp ha).1
  unfold modular_inverse at h
  have ref3 : sparseref07_Power_l3 = modular_raise_l3 := rfl
  unfold sparseref07_Inverse sparseref07_Power
  rw [ref_mod, mod_ok (by omega) h3, obs, Int.emod_eq_of_lt (by omega) ha.2, ref3]
  unfold modular_raise at h
  cases hL : loop (modular_raise_l3 p) (a, ws .i64 p 2, 1) with
  | none => rw [hL] at h; cases h
  | some z => rw [hL, obs, obs] at h; rw [obs, obs]; exact h
section
variable {res primes : List Int}
/-- what both loops know -/
structure CS (res primes : List Int) (i : Nat) (s : Bool) (l : List Int) (t : Bool) (m : List Int) : Prop where
  x : Bg (cst res primes i).1 s l
  n : Bg (cst res primes i).2 t m
theorem pw_one : pw 1 = B := by simp [pw]
theorem pw_B {i : Nat} : pw (i + 1) = B * pw i := rfl
theorem CI.lens {i : Nat} {X N : Int} (h : CI res primes i X N) (hi : i ≤ 6) {s t : Bool} {l m : List Int} (hx : Bg X s l) (hn : Bg N t m) : l.length ≤ 6 ∧ m.length ≤ 7 := by
  have h1 := h.nn
  have h2 := h.xx
  have h3 := pw_mono hi
  have h4 : pw 7 = B * pw 6 := rfl
  have h5 := pw_pos 6
  have e : B = 4294967296 := rfl
  exact ⟨hx.len (m := 6) (by omega) (by omega), hn.len (m := 7) (by rw [h4, e]; omega) (by rw [h4, e]; omega)⟩
theorem combineL_ok (hlen : res.length = primes.length) (h6 : primes.length ≤ 6) (hP : ∀ p, p ∈ primes → PP p) (hnd : primes.Nodup) {t0 : Bool} {m0 : List Int} (h1 : Bg 1 t0 m0) :
    Ret (loop (modular_Combine_l1 primes res) (false, [], t0, m0, 0)) (fun r => CS res primes primes.length r.1 r.2.1 r.2.2.1 r.2.2.2) := by
  refine ret_loop (Post := fun r : Bool × List Int × Bool × List Int => CS res primes primes.length r.1 r.2.1 r.2.2.1 r.2.2.2) primes.length (fun i (s : Bool × List Int × Bool × List Int × Int) => s.2.2.2.2 = (i : Int) ∧ CS res primes i s.1 s.2.1 s.2.2.1 s.2.2.2.1) ⟨rfl, bg_zero, h1⟩ ?_ (by omega)
  rintro i ⟨s, l, t, m, _⟩ hi ⟨rfl, hC⟩
  simp only at hC
  unfold modular_Combine_l1
  simp only
  rw [ret_if]
  refine ⟨fun hlt => ?_, fun hge => ⟨_, rfl, by have e : i = primes.length := (by omega); subst e; exact hC⟩⟩
  have hil : i < primes.length := by omega
  rw [ret_bind, ret_get]
  refine ⟨by omega, hlt, fun p hp => ?_⟩
  rw [Int.toNat_natCast] at hp
  rw [ret_bind, ret_get]
  refine ⟨by omega, by omega, fun r hr => ?_⟩
  rw [Int.toNat_natCast] at hr
  have hI := cst_ok hlen hP hnd i (by omega)
  have hI1 := cst_ok hlen hP hnd (i + 1) (by omega)
  obtain ⟨hl6, hm7⟩ := hI.lens (by omega) hC.x hC.n
  have hPp := hP p (mem_get hp)
  have h2 := hPp.two
  have h3 := hPp.max
  have hne : ∀ j q, j < i → primes[j]? = some q → q ≠ p := by
    intro j q hj hq e
    subst e
    have hil := (List.getElem?_eq_some_iff.1 hp)
    have hjl := (List.getElem?_eq_some_iff.1 hq)
    have := (List.nodup_iff_pairwise_ne.1 hnd)
    rw [List.pairwise_iff_getElem] at this
    exact this j i hjl.1 hil.1 hj (hjl.2.trans hil.2.symm)
  have hnp := hI.out p hPp hne
  obtain ⟨hCx, hCn⟩ := hC
  have hsu := cst_succ hr hp
  generalize hX : (cst res primes i).1 = X at *
  generalize hN : (cst res primes i).2 = N at *
  have hNp : 0 < N % p ∧ N % p < p := by
    have h4 := mod_rng N (show 0 < p by omega)
    have h5 : N % p ≠ 0 := fun h => hnp (Int.dvd_of_emod_eq_zero h)
    omega
  obtain ⟨hv0, hv, _⟩ := iv_ok hPp hNp
  have rx : modular_remainder s l p = some (X % p) := by rw [remainder_ok hCx.1 (by omega) (by omega) (by omega)]; exact congrArg (fun z => some (z % p)) hCx.sv
  have rn : modular_remainder t m p = some (N % p) := by rw [remainder_ok hCn.1 (by omega) (by omega) (by omega)]; exact congrArg (fun z => some (z % p)) hCn.sv
  have q1 := mod_rng r (show 0 < p by omega)
  have q2 := mod_rng X (show 0 < p by omega)
  rw [mod_ok (by omega) h3, obs, rx, obs, ws_i (by omega) (by omega), mod_ok (by omega) h3, obs, rn, obs, hv0, obs, wmr h3 (mod_rng _ (by omega)) hv, obs]
  have hk := mod_rng ((r % p - X % p) % p * iv p (N % p)) (show 0 < p by omega)
  generalize (r % p - X % p) % p * iv p (N % p) % p = k at hk hsu ⊢
  rw [ret_bind]
  refine (from_bg (n := k) (by omega) (by omega)).mono fun f hf => ?_
  have hfl : f.2.length ≤ 1 := hf.len (by rw [pw_one]; unfold B; omega) (by rw [pw_one]; unfold B; omega)
  rw [ret_bind]
  refine (mul_bg (s := t) (t := f.1) hCn.1 hf.1 (by omega) (by omega)).mono fun g hg => ?_
  rw [hCn.sv, hf.sv] at hg
  rw [hsu] at hI1
  have hn1 := hI1.nn
  have hx1 := hI1.xx
  have h8 : pw (i + 1) ≤ pw 6 := pw_mono (by omega)
  have hn0 := hI.nn
  have hx0 := hI.xx
  have hNk : 0 ≤ N * k := Int.mul_nonneg (by omega) (by omega)
  have hgl : g.2.length ≤ 6 := hg.len (m := 6) (by have := pw_pos 6; omega) (by simp only at hx1 hn1; omega)
  rw [ret_bind]
  refine (add_bg (s := s) (t := g.1) hCx.1 hg.1 (by omega) (by omega)).mono fun u hu => ?_
  rw [hCx.sv, hg.sv] at hu
  rw [ret_bind]
  refine (from_bg (n := p) (by omega) (by omega)).mono fun f' hf' => ?_
  have hfl' : f'.2.length ≤ 1 := hf'.len (by rw [pw_one]; unfold B; omega) (by rw [pw_one]; unfold B; omega)
  rw [ret_bind]
  refine (mul_bg (s := t) (t := f'.1) hCn.1 hf'.1 (by omega) (by omega)).mono fun g' hg' => ?_
  rw [hCn.sv, hf'.sv] at hg'
  refine ⟨_, rfl, hil, by show wa .i64 (i : Int) 1 = _; rw [wa_i (by omega) (by omega)]; rfl, ?_, ?_⟩
  · rw [hsu]; exact hu
  · rw [hsu]; exact hg'
theorem combineLR_ok (hlen : res.length = primes.length) (h6 : primes.length ≤ 6) (hP : ∀ p, p ∈ primes → PP p) (hnd : primes.Nodup) {t0 : Bool} {m0 : List Int} (h1 : Bg 1 t0 m0) :
    Ret (loop (sparseref07_Combine_l1 primes res) (false, [], t0, m0, 0)) (fun r => CS res primes primes.length r.1 r.2.1 r.2.2.1 r.2.2.2) := by
  refine ret_loop (Post := fun r : Bool × List Int × Bool × List Int => CS res primes primes.length r.1 r.2.1 r.2.2.1 r.2.2.2) primes.length (fun i (s : Bool × List Int × Bool × List Int × Int) => s.2.2.2.2 = (i : Int) ∧ CS res primes i s.1 s.2.1 s.2.2.1 s.2.2.2.1) ⟨rfl, bg_zero, h1⟩ ?_ (by omega)
  rintro i ⟨s, l, t, m, _⟩ hi ⟨rfl, hC⟩
  simp only at hC
  unfold sparseref07_Combine_l1
  simp only
  rw [ret_if]
  refine ⟨fun hlt => ?_, fun hge => ⟨_, rfl, by have e : i = primes.length := (by omega); subst e; exact hC⟩⟩
  have hil : i < primes.length := by omega
  rw [ret_bind, ret_get]
  refine ⟨by omega, hlt, fun p hp => ?_⟩
  rw [Int.toNat_natCast] at hp
  rw [ret_bind, ret_get]
  refine ⟨by omega, by omega, fun r hr => ?_⟩
  rw [Int.toNat_natCast] at hr
  have hI := cst_ok hlen hP hnd i (by omega)
  have hI1 := cst_ok hlen hP hnd (i + 1) (by omega)
  obtain ⟨hl6, hm7⟩ := hI.lens (by omega) hC.x hC.n
  have hPp := hP p (mem_get hp)
  have h2 := hPp.two
  have h3 := hPp.max
  have hne : ∀ j q, j < i → primes[j]? = some q → q ≠ p := by
    intro j q hj hq e
    subst e
    have hil := (List.getElem?_eq_some_iff.1 hp)
    have hjl := (List.getElem?_eq_some_iff.1 hq)
    have := (List.nodup_iff_pairwise_ne.1 hnd)
    rw [List.pairwise_iff_getElem] at this
    exact this j i hjl.1 hil.1 hj (hjl.2.trans hil.2.symm)
  have hnp := hI.out p hPp hne
  obtain ⟨hCx, hCn⟩ := hC
  have hsu := cst_succ hr hp
  generalize hX : (cst res primes i).1 = X at *
  generalize hN : (cst res primes i).2 = N at *
  have hNp : 0 < N % p ∧ N % p < p := by
    have h4 := mod_rng N (show 0 < p by omega)
    have h5 : N % p ≠ 0 := fun h => hnp (Int.dvd_of_emod_eq_zero h)
    omega
  obtain ⟨_, hv, _⟩ := iv_ok hPp hNp
  have hv0 := inverseR_ok hPp hNp
  have rx : sparseref07_Reduce s l p = some (X % p) := by rw [reduceR_ok hCx.1 (by omega) (by omega) (by omega)]; exact congrArg (fun z => some (z % p)) hCx.sv
  have rn : sparseref07_Reduce t m p = some (N % p) := by rw [reduceR_ok hCn.1 (by omega) (by omega) (by omega)]; exact congrArg (fun z => some (z % p)) hCn.sv
  have q1 := mod_rng r (show 0 < p by omega)
  have q2 := mod_rng X (show 0 < p by omega)
  rw [ref_mod, mod_ok (by omega) h3, obs, rx, obs, ws_i (by omega) (by omega), mod_ok (by omega) h3, obs, rn, obs, hv0, obs, wmr h3 (mod_rng _ (by omega)) hv, obs]
  have hk := mod_rng ((r % p - X % p) % p * iv p (N % p)) (show 0 < p by omega)
  generalize (r % p - X % p) % p * iv p (N % p) % p = k at hk hsu ⊢
  rw [ret_bind]
  refine (fromR_bg (n := k) (by omega) (by omega)).mono fun f hf => ?_
  have hfl : f.2.length ≤ 1 := hf.len (by rw [pw_one]; unfold B; omega) (by rw [pw_one]; unfold B; omega)
  rw [ret_bind]
  refine (mulR_bg (s := t) (t := f.1) hCn.1 hf.1 (by omega) (by omega)).mono fun g hg => ?_
  rw [hCn.sv, hf.sv] at hg
  rw [hsu] at hI1
  have hn1 := hI1.nn
  have hx1 := hI1.xx
  have h8 : pw (i + 1) ≤ pw 6 := pw_mono (by omega)
  have hn0 := hI.nn
  have hx0 := hI.xx
  have hNk : 0 ≤ N * k := Int.mul_nonneg (by omega) (by omega)
  have hgl : g.2.length ≤ 6 := hg.len (m := 6) (by have := pw_pos 6; omega) (by simp only at hx1 hn1; omega)
  rw [ret_bind]
  refine (addR_bg (s := s) (t := g.1) hCx.1 hg.1 (by omega) (by omega)).mono fun u hu => ?_
  rw [hCx.sv, hg.sv] at hu
  rw [ret_bind]
  refine (fromR_bg (n := p) (by omega) (by omega)).mono fun f' hf' => ?_
  have hfl' : f'.2.length ≤ 1 := hf'.len (by rw [pw_one]; unfold B; omega) (by rw [pw_one]; unfold B; omega)
  rw [ret_bind]
  refine (mulR_bg (s := t) (t := f'.1) hCn.1 hf'.1 (by omega) (by omega)).mono fun g' hg' => ?_
  rw [hCn.sv, hf'.sv] at hg'
  refine ⟨_, rfl, hil, by show wa .i64 (i : Int) 1 = _; rw [wa_i (by omega) (by omega)]; rfl, ?_, ?_⟩
  · rw [hsu]; exact hu
  · rw [hsu]; exact hg'
/-- the number in the symmetric range -/
def cfin (res primes : List Int) : Int := if (cst res primes primes.length).2 < 2 * (cst res primes primes.length).1 then (cst res primes primes.length).1 - (cst res primes primes.length).2 else (cst res primes primes.length).1
theorem combineR_ok (hlen : res.length = primes.length) (h6 : primes.length ≤ 6) (hP : ∀ p, p ∈ primes → PP p) (hnd : primes.Nodup) :
    Ret (sparseref07_Combine res primes) (fun r => Bg (cfin res primes) r.1 r.2.1 ∧ Bg (cst res primes primes.length).2 r.2.2.1 r.2.2.2) := by
  unfold sparseref07_Combine
  rw [ret_bind]
  refine (fromR_bg (n := 1) (by omega) (by omega)).mono fun f hf => ?_
  rw [ret_bind]
  refine (combineLR_ok hlen h6 hP hnd hf).mono ?_
  rintro ⟨s, l, t, m⟩ ⟨hx, hn⟩
  simp only at hx hn ⊢
  obtain ⟨hl6, hm7⟩ := (cst_ok hlen hP hnd _ (Nat.le_refl _)).lens h6 hx hn
  unfold cfin
  generalize (cst res primes primes.length).1 = X at *
  generalize (cst res primes primes.length).2 = N at *
  rw [ret_bind]
  refine (dblR_bg (s := s) hx.1 (by omega)).mono fun d hd => ?_
  rw [hx.sv] at hd
  have hdl : d.2.length ≤ 7 := by
    have h4 : pw 7 = B * pw 6 := rfl
    have h5 := pw_pos 6
    have e : B = 4294967296 := rfl
    have h7 := lt_pw hx.1 hl6
    have h8 := hx.abs
    refine hd.len (m := 7) ?_ ?_ <;> (rw [h4, e]; split at h8 <;> omega)
  rw [cmpR_bg (s := d.1) (t := t) hd.1 hn.1 (by omega) (by omega), obs, hd.sv, hn.sv, ret_if]
  refine ⟨fun hg => ?_, fun hg => ?_⟩
  · have hlt : N < 2 * X := by
      refine Classical.byContradiction fun hc => ?_
      revert hg; split <;> (try split) <;> omega
    rw [if_pos hlt, ret_bind]
    refine (subR_bg (s := s) (t := t) hx.1 hn.1 (by omega) (by omega)).mono fun u hu => ⟨_, rfl, ?_, hn⟩
    rw [hx.sv, hn.sv] at hu
    exact hu
  · have hlt : ¬ N < 2 * X := by
      intro hc
      rw [if_neg (by omega), if_pos hc] at hg; omega
    rw [if_neg hlt]
    exact ⟨_, rfl, hx, hn⟩
theorem combineP_ok (hlen : res.length = primes.length) (h6 : primes.length ≤ 6) (hP : ∀ p, p ∈ primes → PP p) (hnd : primes.Nodup) (hc : slices_ContainsFunc_int_v2 primes = some false) {q so : List Int} (hv : slices_Values_int primes = some ()) (hs : slices_Sorted_int primes = some so) (hq : compactI so = some q) (hql : q.length = primes.length) :
    Ret (modular_Combine res primes) (fun r => Bg (cfin res primes) r.1 r.2.1 ∧ Bg (cst res primes primes.length).2 r.2.2.1 r.2.2.2.1 ∧ r.2.2.2.2 = 0) := by
  unfold modular_Combine
  rw [if_pos (by omega), hc, obs, if_neg (by simp), hv, obs, hs, obs, hq, obs, if_pos (by omega), ret_bind]
  refine (from_bg (n := 1) (by omega) (by omega)).mono fun f hf => ?_
  rw [ret_bind]
  refine (combineL_ok hlen h6 hP hnd hf).mono ?_
  rintro ⟨s, l, t, m⟩ ⟨hx, hn⟩
  simp only at hx hn ⊢
  obtain ⟨hl6, hm7⟩ := (cst_ok hlen hP hnd _ (Nat.le_refl _)).lens h6 hx hn
  unfold cfin
  generalize (cst res primes primes.length).1 = X at *
  generalize (cst res primes primes.length).2 = N at *
  rw [ret_bind]
  refine (add_bg (s := s) (t := s) hx.1 hx.1 (by omega) (by omega)).mono fun d hd => ?_
  rw [hx.sv] at hd
  have hdl : d.2.length ≤ 7 := by
    have h4 : pw 7 = B * pw 6 := rfl
    have h5 := pw_pos 6
    have e : B = 4294967296 := rfl
    have h7 := lt_pw hx.1 hl6
    have h8 := hx.abs
    refine hd.len (m := 7) ?_ ?_ <;> (rw [h4, e]; split at h8 <;> omega)
  rw [cmp_bg (s := d.1) (t := t) hd.1 hn.1 (by omega) (by omega), obs, hd.sv, hn.sv, ret_if]
  refine ⟨fun hg => ?_, fun hg => ?_⟩
  · have hlt : N < 2 * X := by
      refine Classical.byContradiction fun hc => ?_
      revert hg; split <;> (try split) <;> omega
    rw [if_pos hlt, ret_bind]
    refine (sub_bg (s := s) (t := t) hx.1 hn.1 (by omega) (by omega)).mono fun u hu => ⟨_, rfl, ?_, hn, rfl⟩
    rw [hx.sv, hn.sv] at hu
    exact hu
  · have hlt : ¬ N < 2 * X := by
      intro hc
      rw [if_neg (by omega), if_pos (by omega)] at hg; omega
    rw [if_neg hlt]
    exact ⟨_, rfl, hx, hn, rfl⟩
end
end Km
/- Primes in a list, twins in a list. -/
namespace Km
open Sx Go M Vc Lm Dt
theorem awake07 : sparselaw07_awake = some true := by kernel_rfl
theorem sqb {i : Int} (h2 : 2 ≤ i) (h3 : i ≤ 46342) : 0 ≤ i * i ∧ i * i ≤ 46342 * 46342 := ⟨Int.mul_nonneg (by omega) (by omega), Int.mul_le_mul h3 h3 (by omega) (by omega)⟩
theorem isPrime_cases (x : Int) : modular_IsPrime x = some false ∨ (modular_IsPrime x = some true ∧ PP x) := by
  by_cases hx : x < 2 ∨ 2147483647 < x
  · refine .inl ?_
    unfold modular_IsPrime
    rw [if_pos (by simpa using hx)]
  · have hx : 2 ≤ x ∧ x ≤ 2147483647 := by omega
    obtain ⟨P, rfl⟩ := Int.eq_ofNat_of_zero_le (show 0 ≤ x by omega)
    have h : Ret (loop (modular_IsPrime_l2 (P : Int)) 2) (fun o => o = .inl () → ∀ d, 2 ≤ d → d * d ≤ P → ¬ d ∣ P) := by
      refine ret_loopM (fun i => (2 ≤ i ∧ i ≤ 46342) ∧ ∀ d : Nat, 2 ≤ d → (d : Int) < i → ¬ d ∣ P) (fun i => (46342 - i).toNat) ⟨by decide, fun d h1 h2 => absurd h2 (by omega)⟩ (by decide) ?_
      rintro i ⟨⟨h2, h3⟩, h0⟩
      obtain ⟨h4, h5⟩ := sqb h2 h3
      unfold modular_IsPrime_l2
      rw [wm_i (by omega) (by omega)]
      split
      · rename_i hle
        have h6 : i ≤ 46341 := by
          refine Classical.byContradiction fun hc => ?_
          obtain rfl : i = 46342 := by omega
          omega
        rw [wr_nn (by omega) (by omega), obs]
        split
        · exact ⟨_, rfl, fun h => by cases h⟩
        · rename_i hne
          refine ⟨_, rfl, ?_⟩
          rw [wa_i (by omega) (by omega)]
          refine ⟨⟨⟨by omega, by omega⟩, fun d hd1 hd2 hd3 => ?_⟩, by show (46342 - (i + 1)).toNat < (46342 - i).toNat; omega⟩
          by_cases e : (d : Int) = i
          · apply hne
            rw [← e]
            exact Int.emod_eq_zero_of_dvd (by exact_mod_cast hd3)
          · exact h0 d hd1 (by omega) hd3
      · rename_i hgt
        refine ⟨_, rfl, fun _ d hd1 hd2 => h0 d hd1 ?_⟩
        refine Classical.byContradiction fun hc => ?_
        have : i * i ≤ (d : Int) * (d : Int) := Int.mul_le_mul (by omega) (by omega) (by omega) (by omega)
        have h9 : ((d * d : Nat) : Int) ≤ (P : Int) := by omega
        simp at h9
        omega
    obtain ⟨o, ho, hpo⟩ := h
    unfold modular_IsPrime
    rw [if_neg (by simp; omega), ho, obs]
    cases o with
    | inr u => exact .inl rfl
    | inl u => exact .inr ⟨rfl, hx.1, hx.2, Nt.Prm.of (by rw [Int.toNat_natCast]; omega) (by rw [Int.toNat_natCast]; exact hpo rfl)⟩
def pb (x : Int) : Bool := (modular_IsPrime x).getD false
theorem pb_ok (x : Int) : modular_IsPrime x = some (pb x) ∧ (pb x = true → PP x) := by
  unfold pb
  rcases isPrime_cases x with h | ⟨h, hp⟩
  · rw [h]; exact ⟨rfl, fun h => by cases h⟩
  · rw [h]; exact ⟨rfl, fun _ => hp⟩
theorem contains_ok {l : List Int} (hl : l.length ≤ 1000) : slices_ContainsFunc_int_v2 l = some (decide (∃ x, x ∈ l ∧ pb x = false)) := by
  refine Ret.eq ?_
  unfold slices_ContainsFunc_int_v2 slices_IndexFunc_int_v3
  rw [ret_bind, ret_bind]
  refine (ret_loop (Post := fun o => (o = .inl () ∧ ∀ x, x ∈ l → pb x = true) ∨ ∃ j, o = .inr j ∧ 0 ≤ j ∧ ∃ x, x ∈ l ∧ pb x = false) l.length (fun k (i : Int) => i = (k : Int) ∧ ∀ x, x ∈ l.take k → pb x = true) ⟨rfl, by simp⟩ ?_ (by omega)).mono ?_
  · rintro k _ hk ⟨rfl, hI⟩
    unfold slices_IndexFunc_int_v3_l1
    rw [ret_if]
    refine ⟨fun hlt => ?_, fun hge => ⟨_, rfl, .inl ⟨rfl, fun x hx => hI x (by rw [take_all (by omega)]; exact hx)⟩⟩⟩
    rw [ret_bind, ret_get]
    refine ⟨by omega, hlt, fun x hx => ?_⟩
    rw [Int.toNat_natCast] at hx
    unfold modular_Combine_1
    rw [(pb_ok x).1, obs, obs, ret_if]
    refine ⟨fun h => ⟨_, rfl, .inr ⟨_, rfl, by omega, x, mem_get hx, by simpa using h⟩⟩, fun h => ⟨_, rfl, by omega, ?_, ?_⟩⟩
    · show wa .i64 (k : Int) 1 = _; rw [wa_i (by omega) (by omega)]; rfl
    · intro y hy
      rw [tks hx, List.mem_append] at hy
      rcases hy with hy | hy
      · exact hI y hy
      · simp at hy; subst hy; simpa using h
  · rintro _ (⟨rfl, h⟩ | ⟨j, rfl, h0, h⟩)
    · refine ⟨_, rfl, _, rfl, ?_⟩
      have hn : ¬ ∃ x, x ∈ l ∧ pb x = false := by
        rintro ⟨x, hx, hf⟩
        rw [h x hx] at hf; cases hf
      rw [decide_eq_false hn]
      rfl
    · refine ⟨_, rfl, _, rfl, ?_⟩
      rw [decide_eq_true h0, decide_eq_true h]
theorem in_ok {l : List Int} (hl : l.length ≤ 1000) (v : Int) : sparsekit_In l v = some (decide (v ∈ l)) := by
  refine Ret.eq ?_
  unfold sparsekit_In
  rw [ret_bind]
  refine (ret_loop (Post := fun o => (o = .inl () ∧ v ∉ l) ∨ (o = .inr () ∧ v ∈ l)) l.length (fun k (i : Int) => i = (k : Int) ∧ v ∉ l.take k) ⟨rfl, by simp⟩ ?_ (by omega)).mono ?_
  · rintro k _ hk ⟨rfl, hI⟩
    unfold sparsekit_In_l1
    rw [ret_if]
    refine ⟨fun hlt => ?_, fun hge => ⟨_, rfl, .inl ⟨rfl, by rwa [take_all (by omega)] at hI⟩⟩⟩
    rw [ret_bind, ret_get]
    refine ⟨by omega, hlt, fun x hx => ?_⟩
    rw [Int.toNat_natCast] at hx
    rw [ret_if]
    refine ⟨fun h => ⟨_, rfl, .inr ⟨rfl, h ▸ mem_get hx⟩⟩, fun h => ⟨_, rfl, by omega, ?_, ?_⟩⟩
    · show wa .i64 (k : Int) 1 = _; rw [wa_i (by omega) (by omega)]; rfl
    · rw [tks hx, List.mem_append]
      rintro (h1 | h1)
      · exact hI h1
      · simp at h1; exact h h1.symm
  · rintro _ (⟨rfl, h⟩ | ⟨rfl, h⟩)
    · exact ⟨_, rfl, by rw [decide_eq_false h]⟩
    · exact ⟨_, rfl, by rw [decide_eq_true h]⟩
theorem compact_nd {m : List Int} (hs : m.Pairwise (· ≤ ·)) : (Go.Lib.compact m).length = m.length ↔ m.Nodup := by
  have hlen : (Go.Lib.compact m).length = ((List.range m.length).filter (Go.Lib.keeps m.toArray)).length := by
    unfold Go.Lib.compact Go.Lib.compactUpTo
    rw [List.length_map]
  have hk : ∀ j, j < m.length → (Go.Lib.keeps m.toArray j = true ↔ j = 0 ∨ m[j]! ≠ m[j - 1]!) := by
    intro j hj
    unfold Go.Lib.keeps
    simp
  constructor
  · intro h
    refine Classical.byContradiction fun hn => ?_
    have hex : ∃ j, j < m.length ∧ Go.Lib.keeps m.toArray j ≠ true := by
      refine Classical.byContradiction fun hno => hn ?_
      have hall : ∀ j (hj : j + 1 < m.length), m[j] < m[j + 1] := by
        intro j hj
        have h1 : Go.Lib.keeps m.toArray (j + 1) = true := Classical.byContradiction fun h => hno ⟨j + 1, hj, h⟩
        rw [hk _ hj] at h1
        have h2 := h1.resolve_left (by omega)
        rw [getElem!_pos m (j + 1) hj, getElem!_pos m (j + 1 - 1) (by omega)] at h2
        have h3 := List.pairwise_iff_getElem.1 hs j (j + 1) (by omega) hj (by omega)
        have h4 : m[j + 1 - 1] = m[j] := by congr 1
        omega
      have hlt : ∀ d i (h : i + 1 + d < m.length), m[i] < m[i + 1 + d] := by
        intro d
        induction d with
        | zero => intro i h; exact hall i h
        | succ d ih =>
          intro i h
          have h1 := ih i (by omega)
          have h2 := hall (i + 1 + d) (by omega)
          have h3 : m[i + 1 + (d + 1)] = m[i + 1 + d + 1] := by congr 1
          omega
      rw [List.nodup_iff_pairwise_ne, List.pairwise_iff_getElem]
      intro i j hi hj hij
      have := hlt (j - i - 1) i (by omega)
      have h3 : m[i + 1 + (j - i - 1)]'(by omega) = m[j] := by congr 1; omega
      omega
    obtain ⟨j, hj, hkj⟩ := hex
    rw [hlen] at h
    have h1 := List.length_filter_lt_length_iff_exists.2 (⟨j, List.mem_range.2 hj, hkj⟩ : ∃ x, x ∈ List.range m.length ∧ ¬ Go.Lib.keeps m.toArray x = true)
    rw [List.length_range] at h1
    omega
  · intro hn
    have hall : ∀ j, j < m.length → Go.Lib.keeps m.toArray j = true := by
      intro j hj
      rw [hk j hj]
      by_cases h0 : j = 0
      · exact .inl h0
      · right
        rw [getElem!_pos m j hj, getElem!_pos m (j - 1) (by omega)]
        have := List.nodup_iff_pairwise_ne.1 hn
        rw [List.pairwise_iff_getElem] at this
        exact fun e => this (j - 1) j (by omega) hj (by omega) e.symm
    rw [Go.Lib.compact_all m hall]
theorem sorted_ok {l : List Int} (hl : l.length ≤ 1000) : ∃ so q, slices_Values_int l = some () ∧ slices_Sorted_int l = some so ∧ compactI so = some q ∧ (q.length = l.length ↔ l.Nodup) := by
  have hp := isortI_perm l
  have hs := isortI_sorted l
  have hlen := hp.length_eq
  have h1 := compact_nd hs
  rw [hlen, hp.nodup_iff] at h1
  have e1 : sortI l = some (isortI l) := by unfold sortI BIG; rw [if_pos (by omega)]
  have e2 : compactI (isortI l) = some (Go.Lib.compact (isortI l)) := by unfold compactI BIG; rw [if_pos (by omega)]
  have e3 : colV l = some l := by unfold colV BIG; rw [if_pos (by omega)]
  refine ⟨isortI l, Go.Lib.compact (isortI l), rfl, ?_, e2, h1⟩
  unfold slices_Sorted_int slices_Collect_int
  rw [e3, obs, obs, e1, obs]
theorem limbs_self {l : List Int} (hl : l.length ≤ 1000) : sparsekit_Limbs l l = some true := by
  refine Ret.eq ?_
  unfold sparsekit_Limbs
  rw [if_pos rfl, ret_bind]
  refine (ret_loop (Post := fun o => o = .inl ()) l.length (fun k (i : Int) => i = (k : Int)) rfl ?_ (by omega)).mono ?_
  · rintro k _ hk rfl
    unfold sparsekit_Limbs_l1
    rw [ret_if]
    refine ⟨fun hlt => ?_, fun hge => ⟨_, rfl, rfl⟩⟩
    rw [ret_bind, ret_get]
    refine ⟨by omega, hlt, fun x hx => ?_⟩
    rw [ret_bind, ret_get]
    refine ⟨by omega, hlt, fun y hy => ?_⟩
    obtain rfl := Option.some.inj (hx.symm.trans hy)
    rw [if_pos rfl]
    refine ⟨_, rfl, by omega, ?_⟩
    show wa .i64 (k : Int) 1 = _
    rw [wa_i (by omega) (by omega)]; rfl
  · rintro _ rfl
    exact ⟨_, rfl, rfl⟩
theorem bigS_ok {v : Int} {s t : Bool} {l m : List Int} (h : Bg v s l) (h' : Bg v t m) (hl : l.length ≤ 1000) : sparsekit_Big s l t m = some true := by
  obtain ⟨rfl, rfl⟩ := h.uniq h'
  unfold sparsekit_Big
  rw [if_pos (by simp), limbs_self hl, obs, obs]
end Km
/- The law ModularCombined. -/
namespace Km
open Sx Go M Vc Lm Dt
theorem want_on (l : List Int) {w : Int} (hw : w ≠ 0) : loop (sparselaw07_ModularCombined_l8 l) (w, 0) = some w ∧ loop (sparselaw07_ModularCombined_l13 l) (w, 0) = some w := by
  constructor
  · refine Ret.eq ?_
    refine ret_loop 0 (fun k (s : Int × Int) => s = (w, 0)) rfl ?_ (by omega)
    rintro k _ hk rfl
    unfold sparselaw07_ModularCombined_l8
    simp only
    rw [if_neg (by simp [hw])]
    exact ⟨_, rfl, rfl⟩
  · refine Ret.eq ?_
    refine ret_loop 0 (fun k (s : Int × Int) => s = (w, 0)) rfl ?_ (by omega)
    rintro k _ hk rfl
    unfold sparselaw07_ModularCombined_l13
    simp only
    rw [if_neg (by simp [hw])]
    exact ⟨_, rfl, rfl⟩
theorem want_prime {l : List Int} (hl : l.length ≤ 1000) : loop (sparselaw07_ModularCombined_l8 l) (0, 0) = some (if ∃ x, x ∈ l ∧ pb x = false then 70 else 0) := by
  refine Ret.eq ?_
  refine ret_loop l.length (fun k (s : Int × Int) => s.2 = (k : Int) ∧ ((s.1 = 0 ∧ ∀ x, x ∈ l.take k → pb x = true) ∨ (s.1 = 70 ∧ ∃ x, x ∈ l ∧ pb x = false))) ⟨rfl, .inl ⟨rfl, by simp⟩⟩ ?_ (by omega)
  rintro k ⟨w, _⟩ hk ⟨rfl, hI⟩
  simp only at hI
  unfold sparselaw07_ModularCombined_l8
  simp only
  have refP : sparseref07_IsPrime = modular_IsPrime := rfl
  rcases hI with ⟨rfl, hI⟩ | ⟨rfl, hI⟩
  · rw [ret_if]
    refine ⟨fun hlt => ?_, fun hge => ?_⟩
    · have hlt : (k : Int) < l.length := by simpa using hlt
      rw [ret_bind, ret_get]
      refine ⟨by omega, hlt, fun x hx => ?_⟩
      rw [Int.toNat_natCast] at hx
      rw [refP, (pb_ok x).1, obs]
      unfold sparselaw07_ModularCombined_j23
      rw [ret_if]
      have hw : wa .i64 (k : Int) 1 = ((k + 1 : Nat) : Int) := by rw [wa_i (by omega) (by omega)]; rfl
      refine ⟨fun h => ⟨_, rfl, by omega, hw, .inl ⟨rfl, ?_⟩⟩, fun h => ⟨_, rfl, by omega, hw, .inr ⟨rfl, x, mem_get hx, by simpa using h⟩⟩⟩
      intro y hy
      rw [tks hx, List.mem_append] at hy
      rcases hy with hy | hy
      · exact hI y hy
      · simp at hy; subst hy; exact h
    · have hge : ¬ (k : Int) < l.length := by simpa using hge
      refine ⟨_, rfl, ?_⟩
      show (0 : Int) = _
      rw [if_neg]
      rintro ⟨x, hx, hf⟩
      rw [hI x (by rw [take_all (by omega)]; exact hx)] at hf; cases hf
  · rw [if_neg (by simp)]
    refine ⟨_, rfl, ?_⟩
    show (70 : Int) = _
    rw [if_pos hI]
theorem want_twin {l : List Int} (hl : l.length ≤ 1000) : loop (sparselaw07_ModularCombined_l13 l) (0, 0) = some (if l.Nodup then 0 else 1) := by
  refine Ret.eq ?_
  refine ret_loop l.length (fun k (s : Int × Int) => s.2 = (k : Int) ∧ ((s.1 = 0 ∧ (l.take k).Nodup) ∨ (s.1 = 1 ∧ ¬ l.Nodup))) ⟨rfl, .inl ⟨rfl, by simp⟩⟩ ?_ (by omega)
  rintro k ⟨w, _⟩ hk ⟨rfl, hI⟩
  simp only at hI
  unfold sparselaw07_ModularCombined_l13
  simp only
  rcases hI with ⟨rfl, hI⟩ | ⟨rfl, hI⟩
  · rw [ret_if]
    refine ⟨fun hlt => ?_, fun hge => ?_⟩
    · have hlt : (k : Int) < l.length := by simpa using hlt
      rw [ret_bind, ret_sli]
      refine ⟨by omega, by omega, by omega, ?_⟩
      rw [Int.toNat_natCast, show ((0 : Int)).toNat = 0 from rfl, List.drop_zero, ret_bind, ret_get]
      refine ⟨by omega, hlt, fun x hx => ?_⟩
      rw [Int.toNat_natCast] at hx
      rw [in_ok (by rw [List.length_take]; omega), obs]
      unfold sparselaw07_ModularCombined_j21
      rw [ret_if]
      have hw : wa .i64 (k : Int) 1 = ((k + 1 : Nat) : Int) := by rw [wa_i (by omega) (by omega)]; rfl
      have hiff : (l.take (k + 1)).Nodup ↔ ¬ x ∈ l.take k := by
        rw [tks hx, List.nodup_append]
        constructor
        · rintro ⟨_, _, h⟩ hm
          exact h x hm x (by simp) rfl
        · intro h
          refine ⟨hI, by simp, fun a ha b hb e => ?_⟩
          simp at hb
          subst hb
          exact h (e ▸ ha)
      refine ⟨fun h => ⟨_, rfl, by omega, hw, .inr ⟨rfl, fun hn => ?_⟩⟩, fun h => ⟨_, rfl, by omega, hw, .inl ⟨rfl, hiff.2 (by simpa using h)⟩⟩⟩
      exact hiff.1 (hn.sublist (List.take_sublist _ _)) (by simpa using h)
    · have hge : ¬ (k : Int) < l.length := by simpa using hge
      refine ⟨_, rfl, ?_⟩
      show (0 : Int) = _
      rw [if_pos]
      rwa [take_all (by omega)] at hI
  · rw [if_neg (by simp)]
    refine ⟨_, rfl, ?_⟩
    show (1 : Int) = _
    rw [if_neg hI]
theorem j3_bad {res primes : List Int} {w0 w e : Int} (h8 : loop (sparselaw07_ModularCombined_l8 primes) (w0, 0) = some w) (hw : ∃ w', loop (sparselaw07_ModularCombined_l13 primes) (w, 0) = some w' ∧ w' ≠ 0 ∧ e = w') : sparselaw07_ModularCombined_j3 primes res (false, [], false, [], e) w0 = some true := by
  obtain ⟨w', h13, hw0, rfl⟩ := hw
  unfold sparselaw07_ModularCombined_j3
  rw [h8, obs, h13, obs, if_neg hw0, if_pos rfl]
  have hb := bigS_ok bg_zero bg_zero (by simp)
  rw [hb, obs, obs, if_pos rfl, obs, if_pos rfl, awake07, obs, obs]
theorem modularCombined_true (res primes : List Int) : sparselaw07_ModularCombined res primes = some true := by
  refine Ret.eq ?_
  unfold sparselaw07_ModularCombined
  rw [ret_if]
  refine ⟨fun _ => by rw [awake07, obs]; exact ⟨_, rfl, rfl⟩, fun h6 => ?_⟩
  have h6 : res.length ≤ 6 ∧ primes.length ≤ 6 := by
    simp only [Bool.or_eq_true, decide_eq_true_eq, not_or] at h6; omega
  rw [ret_bind]
  refine (ret_loop (Post := fun o => o = .inl () ∨ o = .inr true) primes.length (fun k (i : Int) => i = (k : Int)) rfl ?_ (by omega)).mono ?_
  · rintro k _ hk rfl
    unfold sparselaw07_ModularCombined_l2 sparselaw07_modulus
    rw [ret_if]
    refine ⟨fun hlt => ?_, fun _ => ⟨_, rfl, .inl rfl⟩⟩
    rw [ret_bind, ret_get]
    refine ⟨by omega, hlt, fun x hx => ?_⟩
    rw [obs, ret_if]
    refine ⟨fun _ => ⟨_, rfl, by omega, by show wa .i64 (k : Int) 1 = _; rw [wa_i (by omega) (by omega)]; rfl⟩, fun _ => ?_⟩
    rw [awake07, obs]
    exact ⟨_, rfl, .inr rfl⟩
  · rintro _ (rfl | rfl)
    · show Ret ((modular_Combine res primes).bind _) _
      by_cases hlen : res.length = primes.length
      · have hC := contains_ok (l := primes) (by omega)
        obtain ⟨so, q, v1, v2, v3, v4⟩ := sorted_ok (l := primes) (by omega)
        by_cases hp : ∃ x, x ∈ primes ∧ pb x = false
        · rw [decide_eq_true hp] at hC
          have e1 : modular_Combine res primes = some (false, [], false, [], 70) := by
            unfold modular_Combine
            rw [if_pos (by omega), hC, obs, if_pos rfl]
          rw [e1, obs, if_pos (by omega)]
          have h8 := want_prime (l := primes) (by omega)
          rw [if_pos hp] at h8
          rw [j3_bad h8 ⟨70, (want_on primes (by omega)).2, by omega, rfl⟩]
          exact ⟨_, rfl, rfl⟩
        · rw [decide_eq_false hp] at hC
          have h8 := want_prime (l := primes) (by omega)
          rw [if_neg hp] at h8
          have h13 := want_twin (l := primes) (by omega)
          by_cases hn : primes.Nodup
          · have hP : ∀ p, p ∈ primes → PP p := fun p hpm => (pb_ok p).2 (by
              refine Classical.byContradiction fun hc => hp ⟨p, hpm, by simpa using hc⟩)
            rw [if_pos hn] at h13
            rw [ret_bind]
            refine (combineP_ok hlen (by omega) hP hn hC v1 v2 v3 (v4.2 hn)).mono ?_
            rintro ⟨s, l, t, m, e⟩ ⟨hx, hN, he⟩
            simp only at hx hN he
            subst he
            obtain ⟨⟨s', l', t', m'⟩, hr, hx', hN'⟩ := combineR_ok hlen (by omega) hP hn
            rw [if_pos (by omega)]
            unfold sparselaw07_ModularCombined_j3
            rw [h8, obs, h13, obs, if_pos rfl, hr, obs, if_pos rfl]
            have hI := cst_ok hlen hP hn _ (Nat.le_refl _)
            have hnn := hI.nn
            have hxx := hI.xx
            have hp6 : pw primes.length ≤ pw 6 := pw_mono (by omega)
            have hll : l.length ≤ 6 := by
              refine hx.len ?_ ?_ <;> (unfold cfin; split <;> omega)
            have hml : m.length ≤ 7 := by
              have h4 : pw 7 = B * pw 6 := rfl
              have h5 := pw_pos 6
              have e : B = 4294967296 := rfl
              refine hN.len ?_ ?_ <;> (rw [h4, e]; omega)
            simp only at hx' hN'
            simp only
            rw [bigS_ok hx hx' (by omega), obs, obs, if_pos rfl, bigS_ok hN hN' (by omega), obs, obs, if_pos rfl, awake07, obs, obs]
            exact ⟨_, rfl, rfl⟩
          · rw [if_neg hn] at h13
            have e1 : modular_Combine res primes = some (false, [], false, [], 1) := by
              unfold modular_Combine
              rw [if_pos (by omega), hC, obs, if_neg (by simp), v1, obs, v2, obs, v3, obs, if_neg (by intro h; exact hn (v4.1 (by omega)))]
            rw [e1, obs, if_pos (by omega), j3_bad h8 ⟨1, h13, by omega, rfl⟩]
            exact ⟨_, rfl, rfl⟩
      · have e1 : modular_Combine res primes = some (false, [], false, [], 2) := by
          unfold modular_Combine
          rw [if_neg (by omega)]
        rw [e1, obs, if_neg (by omega), j3_bad (want_on primes (by omega)).1 ⟨2, (want_on primes (by omega)).2, by omega, rfl⟩]
        exact ⟨_, rfl, rfl⟩
    · exact ⟨_, rfl, rfl⟩
theorem modularCombined_t (res primes : List Int) (_ : okL (Wf .i64) res) (_ : okL (Wf .i64) primes) : sparselaw07_ModularCombined res primes = some true := modularCombined_true res primes
end Km
