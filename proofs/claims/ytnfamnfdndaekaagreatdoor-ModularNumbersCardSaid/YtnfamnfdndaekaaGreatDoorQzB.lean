/- The paper's division by one limb: each digit of the quotient is right at once. -/
import Derived.Test.YtnfamnfdndaekaaGreatDoorQzA
import Derived.Test.YtnfamnfdndaekaaGreatDoorSxR
set_option linter.unusedVariables false
set_option linter.unusedSimpArgs false
set_option maxHeartbeats 4000000
namespace Km
open Sx Go M Vc Lm
theorem set_two {A Z : List Int} {x y D : Int} {j : Nat} (hj : A.length = j) : ((A ++ x :: y :: Z).set j D).set (j + 1) 0 = A ++ D :: 0 :: Z := by
  subst hj
  rw [List.set_append_right _ _ (Nat.le_refl _), Nat.sub_self, List.set_cons_zero, List.set_append_right _ _ (by omega), show A.length + 1 - A.length = 1 by omega]
  rfl
theorem get_one {A Z : List Int} {x y : Int} {j : Nat} (hj : A.length = j) : (A ++ x :: y :: Z)[j]? = some x ∧ (A ++ x :: y :: Z)[j + 1]? = some y := by
  subst hj
  refine ⟨by rw [List.getElem?_append_right (Nat.le_refl _), Nat.sub_self]; rfl, by rw [List.getElem?_append_right (by omega), show A.length + 1 - A.length = 1 by omega]; rfl⟩
theorem take_alg {x y q r G : Int} (hd : 4294967296 * q + r = G) (hr : 0 ≤ r ∧ r < 4294967296) (hx : 0 ≤ x ∧ x < 4294967296) (h0 : G ≤ y * 4294967296 + x) (h1 : y * 4294967296 + x - G < 4294967296) : y - q - (if x - r < 0 then 1 else 0) = 0 ∧ x - r + 4294967296 * (if x - r < 0 then 1 else 0) = y * 4294967296 + x - G := by
  split <;> omega
theorem take1_ok {A Z : List Int} {x y V g : Int} {j : Nat} (hj : A.length = j) (hjn : j ≤ 1000) (hx : 0 ≤ x ∧ x < B) (hy : 0 ≤ y ∧ y < B) (hV : 0 < V ∧ V < B) (hg : 0 ≤ g ∧ g < B) (h0 : g * V ≤ y * B + x) (h1 : y * B + x - g * V < B) :
    sparseref01_take (A ++ x :: y :: Z) [V] (j : Int) g = some (A ++ (y * B + x - g * V) :: 0 :: Z, true) := by
  have e : B = 4294967296 := rfl
  refine Ret.eq ?_
  have hgV : 0 ≤ g * V := Int.mul_nonneg hg.1 (by omega)
  have hgV2 : g * V ≤ (B - 1) * (B - 1) := Int.mul_le_mul (by omega) (by omega) (by omega) (by omega)
  have hgV3 : g * V < 18446744073709551616 := by rw [e] at hgV2; omega
  obtain ⟨u1, u2⟩ := get_one (A := A) (Z := Z) (x := x) (y := y) hj
  have hlen : (A ++ x :: y :: Z).length = j + 2 + Z.length := by simp [hj]; omega
  have hd := Int.mul_ediv_add_emod (g * V) B
  have c0 := Int.emod_nonneg (g * V) (show B ≠ 0 by omega)
  have c0' := Int.emod_lt_of_pos (g * V) (show 0 < B by omega)
  have c1 : 0 ≤ g * V / B := Int.ediv_nonneg hgV (by omega)
  have c1' : g * V / B < B := Int.ediv_lt_of_lt_mul (by omega) (by rw [e] at hgV2 ⊢; omega)
  obtain ⟨s1, s2⟩ := sub_top (v := x - g * V % B) (by omega) (by omega)
  have hyc : y - g * V / B - (if x - g * V % B < 0 then 1 else 0) = 0 ∧ x - g * V % B + B * (if x - g * V % B < 0 then 1 else 0) = y * B + x - g * V := take_alg hd ⟨c0, c0'⟩ hx h0 h1
  unfold sparseref01_take
  rw [ret_bind, ret_mkL]
  have h2 : wa .i64 (([V] : List Int).length : Int) 1 = 2 := by rw [wa_i (by simp) (by simp)]; rfl
  rw [h2]
  refine ⟨by omega, by omega, ?_⟩
  rw [show List.replicate (2 : Int).toNat (0 : Int) = [0, 0] from rfl, ret_bind]
  refine (ret_loop (Post := fun s : List Int × Int => s = ([y * B + x - g * V, 0], 0)) 2 (fun k (s : List Int × Int × Int × Int) => (k = 0 ∧ s = ([0, 0], 0, 0, 0)) ∨ (k = 1 ∧ s = ([y * B + x - g * V, 0], if x - g * V % B < 0 then 1 else 0, g * V / B, 1)) ∨ (k = 2 ∧ s.1 = [y * B + x - g * V, 0] ∧ s.2.1 = 0 ∧ s.2.2.2 = 2)) (.inl ⟨rfl, rfl⟩) ?_ (by omega)).mono ?_
  · rintro k s hk (⟨rfl, rfl⟩ | ⟨rfl, rfl⟩ | ⟨rfl, h⟩)
    · unfold sparseref01_take_l3 sparseref01_take_j5
      simp only
      rw [if_pos (by simp), if_pos (by simp), show getI [V] 0 = some V from rfl, obs, wc_u64_in (x := V) ⟨by omega, by omega⟩, wm_u64 ⟨hgV, hgV3⟩, wa_u64 (x := 0) ⟨by omega, by omega⟩, Int.zero_add, show wa .i64 0 (j : Int) = (j : Int) by rw [wa_i (by omega) (by omega)]; omega, ret_bind, ret_get]
      refine ⟨by omega, by rw [hlen]; omega, fun x' hx' => ?_⟩
      rw [Int.toNat_natCast, u1] at hx'
      obtain rfl := Option.some.inj hx'
      have hv0 : ws .u64 (ws .u64 (wc .u64 x) 0) (wand .u64 (g * V) 4294967295) = (x - g * V % B) % 18446744073709551616 := by
        rw [wc_u64_in (x := x) ⟨hx.1, by omega⟩, wand_low ⟨hgV, hgV3⟩, ws_u64, ws_u64]; omega
      rw [hv0, wc_u32, s1, wsrc63 (Int.emod_nonneg _ (by omega)), s2, wsrc32 hgV, ret_bind, ret_set]
      refine ⟨by omega, by simp, _, rfl, by omega, .inr (.inl ⟨by trivial, ?_⟩)⟩
      rw [hyc.2, wa_i (by omega) (by omega)]
      rfl
    · unfold sparseref01_take_l3 sparseref01_take_j5
      simp only
      rw [if_pos (by simp), if_neg (by simp), show wa .i64 1 (j : Int) = ((j + 1 : Nat) : Int) by rw [wa_i (by omega) (by omega)]; omega, ret_bind, ret_get]
      refine ⟨by omega, by rw [hlen]; omega, fun y' hy' => ?_⟩
      rw [Int.toNat_natCast, u2] at hy'
      obtain rfl := Option.some.inj hy'
      have hv1 : ws .u64 (ws .u64 (wc .u64 y) (if x - g * V % B < 0 then 1 else 0)) (wand .u64 (g * V / B) 4294967295) = 0 := by
        rw [wc_u64_in (x := y) ⟨hy.1, by omega⟩, wand_low ⟨c1, by omega⟩, Int.emod_eq_of_lt c1 c1', ws_u64, ws_u64]
        have := hyc.1
        revert this
        generalize (if x - g * V % B < 0 then (1 : Int) else 0) = z
        intro this
        omega
      rw [hv1, ret_bind, ret_set]
      refine ⟨by omega, by simp, _, rfl, by omega, .inr (.inr ⟨by trivial, ?_, ?_, ?_⟩)⟩
      · rfl
      · show wsrc .u64 0 63 = 0; rw [wsrc63 (by omega)]; rfl
      · show wa .i64 1 1 = 2; rw [wa_i (by omega) (by omega)]; rfl
    · obtain ⟨o, b, c, i⟩ := s
      obtain ⟨h3, h4, h5⟩ := h
      simp only at h3 h4 h5
      subst h3; subst h4; subst h5
      unfold sparseref01_take_l3
      simp only
      rw [if_neg (by simp)]
      exact ⟨_, rfl, rfl⟩
  · rintro _ rfl
    simp only
    rw [if_pos trivial, ret_bind]
    refine (ret_loop (Post := fun s : List Int => s = A ++ (y * B + x - g * V) :: 0 :: Z) 2 (fun k (s : List Int × Int) => (k = 0 ∧ s = (A ++ x :: y :: Z, 0)) ∨ (k = 1 ∧ s = ((A ++ x :: y :: Z).set j (y * B + x - g * V), 1)) ∨ (k = 2 ∧ s = (A ++ (y * B + x - g * V) :: 0 :: Z, 2))) (.inl ⟨rfl, rfl⟩) ?_ (by omega)).mono ?_
    · rintro k s hk (⟨rfl, rfl⟩ | ⟨rfl, rfl⟩ | ⟨rfl, rfl⟩)
      · unfold sparseref01_take_l4
        simp only
        rw [if_pos (by simp), show getI [y * B + x - g * V, 0] 0 = some (y * B + x - g * V) from rfl, obs, show wa .i64 0 (j : Int) = (j : Int) by rw [wa_i (by omega) (by omega)]; omega, ret_bind, ret_set, Int.toNat_natCast]
        exact ⟨by omega, by rw [hlen]; omega, _, rfl, by omega, .inr (.inl ⟨by trivial, by rw [wa_i (by omega) (by omega)]; rfl⟩)⟩
      · unfold sparseref01_take_l4
        simp only
        rw [if_pos (by simp), show getI [y * B + x - g * V, 0] 1 = some 0 from rfl, obs, show wa .i64 1 (j : Int) = ((j + 1 : Nat) : Int) by rw [wa_i (by omega) (by omega)]; omega, ret_bind, ret_set, Int.toNat_natCast]
        refine ⟨by omega, by rw [List.length_set, hlen]; omega, _, rfl, by omega, .inr (.inr ⟨by trivial, ?_⟩)⟩
        rw [set_two hj, wa_i (by omega) (by omega)]; rfl
      · unfold sparseref01_take_l4
        simp only
        rw [if_neg (by simp)]
        exact ⟨_, rfl, rfl⟩
    · rintro _ rfl
      exact ⟨_, rfl, rfl⟩
end Km
/- The paper's remainder by one limb. -/
namespace Km
open Sx Go M Vc Lm
theorem divLoop_ok {U : List Int} {p V : Int} {n : Nat} (hU : LW U) (hl : U.length = n + 1) (hn : n ≤ 1000) (hV : 0 < V ∧ V < B) (htop : U.getD n 0 < V) {q0 : List Int} (hq : LW q0) (hql : q0.length = n) :
    Ret (loop (sparseref01_divMag_l4 [p] [V]) (U, q0, (n : Int) - 1)) (fun s => s.1 = (lv U % V) :: List.replicate n 0 ∧ LW s.2 ∧ s.2.length = n) := by
  have e : B = 4294967296 := rfl
  have hUn : U[n]? = some (U.getD n 0) := by
    have : n < U.length := by omega
    rw [List.getElem?_eq_getElem this]; simp [List.getD, this]
  refine ret_loop n (fun m (s : List Int × List Int × Int) => s.2.2 = (n : Int) - 1 - m ∧ m ≤ n ∧ s.1 = U.take (n - m) ++ (lv (U.drop (n - m)) % V) :: List.replicate m 0 ∧ LW s.2.1 ∧ s.2.1.length = n) ⟨by show (n : Int) - 1 = (n : Int) - 1 - ((0 : Nat) : Int); omega, by omega, ?_, hq, hql⟩ ?_ (by omega)
  · have h1 := LW.get hU hUn
    have hd : U.drop n = [U.getD n 0] := by
      have hlt : n < U.length := by omega
      rw [List.drop_eq_getElem_cons hlt, List.drop_of_length_le (by omega)]
      congr 1
      simp [List.getD, hlt]
    show U = U.take (n - 0) ++ (lv (U.drop (n - 0)) % V) :: List.replicate 0 0
    rw [Nat.sub_zero, hd]
    simp only [lv, Int.mul_zero, Int.add_zero, List.replicate_zero]
    rw [Int.emod_eq_of_lt h1.1 htop, ← hd, List.take_append_drop]
  · rintro m ⟨u, q, _⟩ hm ⟨rfl, h1, h2, h3, h4⟩
    simp only at h2 h3 h4
    unfold sparseref01_divMag_l4
    simp only
    rw [ret_if]
    refine ⟨fun hge => ?_, fun hlt => ?_⟩
    · obtain ⟨j, hj⟩ : ∃ j : Nat, n = j + (m + 1) := ⟨n - (m + 1), by omega⟩
      have ej : (n : Int) - 1 - (m : Int) = (j : Int) := by omega
      rw [show n - m = j + 1 by omega] at h2
      rw [ej]
      have hjU : j < U.length := by omega
      obtain ⟨x, hx⟩ : ∃ x, U[j]? = some x := ⟨_, List.getElem?_eq_getElem hjU⟩
      have hxB := LW.get hU hx
      have hA : (U.take j).length = j := by rw [List.length_take]; omega
      have hu : u = U.take j ++ x :: (lv (U.drop (j + 1)) % V) :: List.replicate m 0 := by
        rw [h2, tks hx, List.append_assoc]; rfl
      have hy := Int.emod_nonneg (lv (U.drop (j + 1))) (show V ≠ 0 by omega)
      have hy2 := Int.emod_lt_of_pos (lv (U.drop (j + 1))) hV.1
      have hdx : U.drop j = x :: U.drop (j + 1) := by
        obtain ⟨a1, a2⟩ := List.getElem?_eq_some_iff.1 hx
        rw [← a2]; exact List.drop_eq_getElem_cons a1
      have hval : lv (U.drop j) % V = ((lv (U.drop (j + 1)) % V) * B + x) % V := by
        rw [hdx]
        simp only [lv]
        have h9 := Int.mul_ediv_add_emod (lv (U.drop (j + 1))) V
        have h10 : x + B * lv (U.drop (j + 1)) = ((lv (U.drop (j + 1)) % V) * B + x) + V * (B * (lv (U.drop (j + 1)) / V)) := by
          conv => lhs; rw [← h9]
          grind
        rw [h10, Int.add_mul_emod_self_left]
      generalize lv (U.drop (j + 1)) % V = y at hu hy hy2 hval
      obtain ⟨u1, u2⟩ := get_one (A := U.take j) (Z := List.replicate m 0) (x := x) (y := y) hA
      have hul : u.length = n + 1 := by rw [hu]; simp; omega
      have hy1 : y + 1 ≤ V := by omega
      have hmul : (y + 1) * B ≤ V * B := Int.mul_le_mul_of_nonneg_right hy1 (by omega)
      rw [Int.add_mul, Int.one_mul] at hmul
      have hyB : 0 ≤ y * B := Int.mul_nonneg hy (by omega)
      have hyB2 : y * B + x < 18446744073709551616 := by
        have : V * B ≤ (B - 1) * B := Int.mul_le_mul_of_nonneg_right (by omega) (by omega)
        rw [e] at this hmul ⊢
        omega
      have hd := Int.mul_ediv_add_emod (y * B + x) V
      have hD := Int.emod_nonneg (y * B + x) (show V ≠ 0 by omega)
      have hD2 := Int.emod_lt_of_pos (y * B + x) hV.1
      have hg0 : 0 ≤ (y * B + x) / V := Int.ediv_nonneg (by omega) (by omega)
      have hgB : (y * B + x) / V < B := Int.ediv_lt_of_lt_mul hV.1 (by rw [Int.mul_comm B V]; omega)
      have hcomm : (y * B + x) / V * V = V * ((y * B + x) / V) := Int.mul_comm _ _
      rw [show wa .i64 (j : Int) (([p] : List Int).length : Int) = ((j + 1 : Nat) : Int) by rw [wa_i (by simp; omega) (by simp; omega)]; rfl, ret_bind, ret_get]
      refine ⟨by omega, by omega, fun y' hy' => ?_⟩
      rw [Int.toNat_natCast, hu, u2] at hy'
      obtain rfl := Option.some.inj hy'
      rw [show ws .i64 ((j + 1 : Nat) : Int) 1 = (j : Int) by rw [ws_i (by omega) (by omega)]; omega, ret_bind, ret_get]
      refine ⟨by omega, by omega, fun x' hx' => ?_⟩
      rw [Int.toNat_natCast, hu, u1] at hx'
      obtain rfl := Option.some.inj hx'
      rw [show ws .i64 (([p] : List Int).length : Int) 1 = 0 by rw [ws_i (by simp) (by simp)]; rfl, show getI [V] 0 = some V from rfl, obs]
      have ht : wor .u64 (wslc .u64 (wc .u64 y) 32) (wc .u64 x) = y * B + x := by
        rw [wc_u64_in (x := y) ⟨hy, by omega⟩, wslc32 ⟨hy, by omega⟩, wc_u64_in ⟨hxB.1, by omega⟩, wor_hi ⟨hy, by omega⟩ hxB]
      have hwq : wq .u64 (y * B + x) (wc .u64 V) = some ((y * B + x) / V) := by
        rw [wc_u64_in ⟨by omega, by omega⟩]
        unfold wq
        rw [if_neg (by omega), Int.tdiv_eq_ediv_of_nonneg (by omega), IntWalk.u64_in _ ⟨hg0, by omega⟩]
      have him : imin ((y * B + x) / V) 4294967295 = (y * B + x) / V := by unfold imin; split <;> omega
      rw [ht, hwq, obs, him, ret_bind]
      have htk := take1_ok (A := U.take j) (Z := List.replicate m 0) hA (by omega) hxB ⟨hy, by omega⟩ hV ⟨hg0, hgB⟩ (by omega) (by omega)
      refine (ret_loop (Post := fun s : List Int × Int => s = (U.take j ++ (y * B + x - (y * B + x) / V * V) :: 0 :: List.replicate m 0, (y * B + x) / V)) 0 (fun k (s : List Int × Int) => s = (u, (y * B + x) / V)) rfl ?_ (by omega)).mono ?_
      · rintro k _ hk rfl
        unfold sparseref01_divMag_l5
        simp only
        rw [hu, htk, obs, if_pos rfl]
        exact ⟨_, rfl, rfl⟩
      · rintro _ rfl
        simp only
        rw [wc_u32_in ⟨hg0, hgB⟩, ret_bind, ret_set, Int.toNat_natCast]
        refine ⟨by omega, by omega, _, rfl, by omega, ?_⟩
        refine ⟨by show ws .i64 (j : Int) 1 = _; rw [ws_i (by omega) (by omega)]; omega, by omega, ?_, ?_, by show (q.set j _).length = n; rw [List.length_set, h4]⟩
        · show U.take j ++ _ :: 0 :: List.replicate m 0 = U.take (n - (m + 1)) ++ _ :: List.replicate (m + 1) 0
          have hDe : y * B + x - (y * B + x) / V * V = (y * B + x) % V := by omega
          rw [show n - (m + 1) = j by omega, List.replicate_succ, hval, hDe]
        · intro z hz
          rcases List.mem_or_eq_of_mem_set hz with hz | rfl
          · exact h3 z hz
          · exact ⟨hg0, hgB⟩
    · have em : m = n := by omega
      subst em
      refine ⟨_, rfl, ?_, h3, h4⟩
      rw [Nat.sub_self, List.take_zero, List.nil_append, List.drop_zero] at h2
      exact h2
end Km
/- The paper's division by one limb: quotient and remainder. -/
namespace Km
open Sx Go M Vc Lm
theorem wq0 {s : Nat} (hs : s < 32) : wqc .i64 (s : Int) 32 = 0 ∧ wrc (s : Int) 32 = (s : Int) := by
  constructor
  · show IntKind.wrap .i64 (Int.tdiv (s : Int) 32) = 0
    rw [Int.tdiv_eq_ediv_of_nonneg (by omega), Int.ediv_eq_zero_of_lt (by omega) (by omega)]; rfl
  · show Int.tmod (s : Int) 32 = _
    rw [Int.tmod_eq_emod_of_nonneg (by omega), Int.emod_eq_of_lt (by omega) (by omega)]
/-- a list of one limb at most, shifted down -/
theorem shr1_ok {l : List Int} {y : Int} {s : Nat} (hs : s < 32) (hy : 0 ≤ y ∧ y < B) (hl : l = if y = 0 then [] else [y]) : Ret (sparseref01_shr l (s : Int)) (fun r => LW r.1 ∧ r.1.length ≤ 1 ∧ lv r.1 = y / 2 ^ s) := by
  have e : B = 4294967296 := rfl
  obtain ⟨k1, k2⟩ := wq0 hs
  have hP : 0 < (2 : Int) ^ s := Int.pow_pos (by omega)
  unfold sparseref01_shr
  rw [ret_bind, k1]
  refine (ret_loop (Post := fun b : Bool => b = false) 0 (fun k (t : Bool × Int) => t = (false, 0)) rfl ?_ (by omega)).mono ?_
  · rintro k _ hk rfl
    unfold sparseref01_shr_l4
    simp only
    rw [k1, if_neg (by simp)]
    exact ⟨_, rfl, rfl⟩
  · rintro _ rfl
    by_cases hz : y = 0
    · rw [if_pos hz] at hl
      subst hl
      rw [ret_bind]
      refine (ret_loop (Post := fun b : Bool × List Int => b = (false, [])) 0 (fun k (t : Bool × List Int × Int) => t = (false, [], 0)) rfl ?_ (by omega)).mono ?_
      · rintro k _ hk rfl
        exact ⟨_, rfl, rfl⟩
      · rintro _ rfl
        refine ⟨_, rfl, by intro x hx; simp at hx, by simp, ?_⟩
        rw [hz, Int.zero_ediv]; rfl
    · rw [if_neg hz] at hl
      subst hl
      rw [ret_bind]
      refine (ret_loop (Post := fun b : Bool × List Int => b.2 = [y / 2 ^ s]) 1 (fun k (t : Bool × List Int × Int) => (k = 0 ∧ t = (false, [], 0)) ∨ (k = 1 ∧ t.2.1 = [y / 2 ^ s] ∧ t.2.2 = 1)) (.inl ⟨rfl, rfl⟩) ?_ (by omega)).mono ?_
      · rintro k t hk (⟨rfl, rfl⟩ | ⟨rfl, h1, h2⟩)
        · unfold sparseref01_shr_l15
          simp only
          rw [if_pos (by simp), show getI [y] 0 = some y from rfl, obs, show wa .i64 0 1 = 1 by rw [wa_i (by omega) (by omega)]; rfl, if_neg (by simp)]
          unfold sparseref01_shr_j16
          rw [k1, if_pos rfl, show getI [y] 0 = some y from rfl, obs, k2]
          have hsh : wshl .u32 1 (s : Int) = some (IntKind.u32.wrap (1 * 2 ^ min s 32)) := by
            unfold wshl; rw [if_neg (by omega), Int.toNat_natCast]; rfl
          rw [hsh, obs, obs]
          have fin : ∀ b : Bool, Ret (sparseref01_shr_j20 (wc .u64 y) (s : Int) [] 0 b) (VQ (fun t' : Bool × List Int × Int => 0 < 1 ∧ ((0 + 1 = 0 ∧ t' = (false, [], 0)) ∨ (True ∧ t'.2.1 = [y / 2 ^ s] ∧ t'.2.2 = 1))) (fun b : Bool × List Int => b.2 = [y / 2 ^ s])) := by
            intro b
            unfold sparseref01_shr_j20
            have hq0 : 0 ≤ y / 2 ^ s := Int.ediv_nonneg hy.1 (by omega)
            have hq1 : y / 2 ^ s ≤ y := Int.ediv_le_self _ hy.1
            have hsr : wshr .u64 (wc .u64 y) (s : Int) = some (y / 2 ^ s) := by
              rw [wc_u64_in ⟨hy.1, by omega⟩]
              unfold wshr
              rw [if_neg (by omega), Int.toNat_natCast]
              show some (y.fdiv (2 ^ min s 64)) = _
              rw [Nat.min_eq_left (by omega), Int.fdiv_eq_ediv_of_nonneg _ (by omega)]
            rw [k2, hsr, obs, wc_u32_in ⟨hq0, by omega⟩, ret_bind, ret_app]
            exact ⟨by simp, _, rfl, by omega, .inr ⟨trivial, rfl, by show wa .i64 0 1 = 1; rw [wa_i (by omega) (by omega)]; rfl⟩⟩
          split
          · exact fin true
          · exact fin false
        · obtain ⟨b, o, i⟩ := t
          simp only at h1 h2
          subst h1; subst h2
          unfold sparseref01_shr_l15
          simp only
          rw [if_neg (by simp)]
          exact ⟨_, rfl, rfl⟩
      · rintro ⟨b, o⟩ h
        simp only at h
        subst h
        have hq0 : 0 ≤ y / 2 ^ s := Int.ediv_nonneg hy.1 (by omega)
        have hq1 : y / 2 ^ s ≤ y := Int.ediv_le_self _ hy.1
        exact ⟨_, rfl, LW.one.2 ⟨hq0, by omega⟩, by simp, by simp [lv]⟩
theorem divMag1_ok {a : List Int} {p : Int} (ha : LW a) (ta : Tm a) (hn : a.length ≤ 900) (hp : 0 < p) (hB : p < B) : ∃ q r, sparseref01_divMag a [p] = some (q, r) ∧ LW q ∧ q.length ≤ 900 ∧ LW r ∧ r.length ≤ 900 ∧ lv r = lv a % p := by
  have e : B = 4294967296 := rfl
  have lp : lv [p] = p := by simp [lv]
  have h0 := lv_nn ha
  have key : Ret (sparseref01_divMag a [p]) (fun o => LW o.1 ∧ o.1.length ≤ 900 ∧ LW o.2 ∧ o.2.length ≤ 900 ∧ lv o.2 = lv a % p) := by
    unfold sparseref01_divMag
    rw [cmpMag_ok ha (lw_one hp hB) ta (tm_one hp) (by omega) (by simp), obs, lp]
    by_cases hlt : lv a < p
    · rw [if_pos hlt, if_pos (by omega)]
      exact ⟨_, rfl, by intro x hx; simp at hx, by simp, ha, by show a.length ≤ 900; omega, by rw [Int.emod_eq_of_lt h0 hlt]⟩
    · have hneg : ¬ (if lv a < p then (-1 : Int) else if p < lv a then 1 else 0) < 0 := by rw [if_neg hlt]; split <;> omega
      rw [if_neg hneg, show ws .i64 (([p] : List Int).length : Int) 1 = 0 by rw [ws_i (by simp) (by simp)]; rfl, show getI [p] 0 = some p from rfl, obs]
      obtain ⟨s, hs1, hs2, hs3⟩ := lead_ok hp hB
      have hP : 0 < (2 : Int) ^ s := Int.pow_pos (by omega)
      rw [hs1, obs, ret_bind]
      refine (shl_ok ha (by omega) hs2).mono fun U hU => ?_
      obtain ⟨hU1, hU2, hU3⟩ := hU
      rw [ret_bind]
      refine (shl_ok (lw_one hp hB) (by simp) hs2).mono fun W hW => ?_
      obtain ⟨hW1, hW2, hW3⟩ := hW
      rw [lp] at hW3
      have hVpos : 0 < p * 2 ^ s := Int.mul_pos hp hP
      have hWe : W = [p * 2 ^ s, 0] := by
        refine lv_inj hW1 ?_ (by rw [hW2]; rfl) (by rw [hW3]; simp [lv])
        intro x hx
        simp at hx
        rcases hx with rfl | rfl <;> omega
      rw [hWe, ret_bind, ret_sli]
      refine ⟨by omega, by simp, by simp, ?_⟩
      rw [show ([p * 2 ^ s, 0].take (([p] : List Int).length : Int).toNat).drop (0 : Int).toNat = [p * 2 ^ s] from rfl, if_neg (by omega)]
      unfold sparseref01_divMag_j1
      have hl1 : (([p] : List Int).length : Int) = 1 := rfl
      have han : 0 < a.length := by
        refine Nat.pos_of_ne_zero fun h => ?_
        have : a = [] := List.eq_nil_of_length_eq_zero h
        rw [this] at hlt; simp [lv] at hlt; omega
      rw [hl1, show ws .i64 (a.length : Int) 1 = (a.length : Int) - 1 by rw [ws_i (by omega) (by omega)], show wa .i64 ((a.length : Int) - 1) 1 = (a.length : Int) by rw [wa_i (by omega) (by omega)]; omega, ret_bind, ret_mkL]
      refine ⟨by omega, by omega, ?_⟩
      rw [Int.toNat_natCast, ret_bind]
      have htop : U.getD a.length 0 < p * 2 ^ s := by
        have h1 := take_of (a := U) (i := a.length)
        rw [take_all (show U.length ≤ a.length + 1 by omega), hU3] at h1
        have h2 := lv_nn (LW.take hU1 a.length)
        have h3 := lv_lt ha
        have h4 := pw_pos a.length
        have h5 : lv a * 2 ^ s < pw a.length * 2 ^ s := Int.mul_lt_mul_of_pos_right h3 hP
        have h6 : pw a.length * U.getD a.length 0 < pw a.length * 2 ^ s := by omega
        have h7 := Int.lt_of_mul_lt_mul_left h6 (Int.le_of_lt h4)
        have h8 : 1 * 2 ^ s ≤ p * 2 ^ s := Int.mul_le_mul_of_nonneg_right (by omega) (by omega)
        omega
      refine (divLoop_ok (p := p) hU1 hU2 (by omega) ⟨hVpos, hs3⟩ htop (q0 := List.replicate a.length 0) (fun x hx => by rw [List.mem_replicate] at hx; rw [hx.2]; omega) (List.length_replicate ..)).mono ?_
      rintro ⟨u, q⟩ ⟨h1, h2, h3⟩
      simp only at h1 h2 h3 ⊢
      have hyv : lv U % (p * 2 ^ s) = (lv a % p) * 2 ^ s := by
        rw [hU3, Int.mul_comm (lv a), Int.mul_comm p, Int.mul_emod_mul_of_pos _ _ hP, Int.mul_comm]
      have hy0 := Int.emod_nonneg (lv U) (show p * 2 ^ s ≠ 0 by omega)
      have hy1 := Int.emod_lt_of_pos (lv U) hVpos
      have hulw : LW u := by
        rw [h1]; intro x hx
        rcases List.mem_cons.1 hx with rfl | hx
        · exact ⟨hy0, by omega⟩
        · rw [List.mem_replicate] at hx; rw [hx.2]; omega
      have hulv : lv u = lv U % (p * 2 ^ s) := by rw [h1]; simp [lv, lv_zeros]
      have hul : u.length ≤ 1000000 := by rw [h1]; simp; omega
      have htr : trimL u = if lv U % (p * 2 ^ s) = 0 then [] else [lv U % (p * 2 ^ s)] := by
        refine tm_inj (trimL_lw hulw) ?_ (trimL_tm u) ?_ ?_
        · intro x hx; split at hx
          · simp at hx
          · simp at hx; omega
        · split
          · exact tm_nil
          · rename_i h; intro x hx; simp at hx; omega
        · rw [trimL_lv, hulv]; split
          · rename_i h; rw [h]; rfl
          · simp [lv]
      rw [trimR_ok hulw hul, obs, ret_bind]
      refine (shr1_ok hs2 ⟨hy0, by omega⟩ htr).mono fun r hr => ?_
      obtain ⟨r1, r2, r3⟩ := hr
      rw [trimR_ok h2 (by omega), obs, trimR_ok r1 (by omega), obs]
      have hlen : ∀ {l : List Int}, LW l → l.length ≤ 900 → (trimL l).length ≤ 900 := by
        intro l hl hll
        have h9 := len_le (trimL_lw hl) (trimL_tm l) (m := l.length) (by rw [trimL_lv]; exact lv_lt hl)
        omega
      refine ⟨_, rfl, trimL_lw h2, hlen h2 (by omega), trimL_lw r1, hlen r1 (by omega), ?_⟩
      show lv (trimL r.1) = _
      rw [trimL_lv, r3, hyv, Int.mul_ediv_cancel _ (by omega)]
  obtain ⟨⟨q, r⟩, h1, h2, h3, h4, h5, h6⟩ := key
  exact ⟨q, r, h1, h2, h3, h4, h5, h6⟩
end Km
/- The paper's Reduce. -/
namespace Km
open Sx Go M Vc Lm
theorem trimL_len {l : List Int} (hl : LW l) : (trimL l).length ≤ l.length := len_le (trimL_lw hl) (trimL_tm l) (by rw [trimL_lv]; exact lv_lt hl)
theorem intR_ok {r : Int} (h0 : 0 ≤ r) (h1 : r < B) {l : List Int} (hl : LW l) (ht : Tm l) (he : lv l = r) : sparseref01_Int false l = some (r, true) := by
  have e : B = 4294967296 := rfl
  have hl2 : l = if r = 0 then [] else [r] := by
    refine tm_inj hl ?_ ht ?_ ?_
    · intro x hx; split at hx
      · simp at hx
      · simp at hx; omega
    · split
      · exact tm_nil
      · rename_i h; intro x hx; simp at hx; omega
    · rw [he]; split
      · rename_i h; rw [h]; rfl
      · simp [lv]
  refine Ret.eq ?_
  unfold sparseref01_Int
  rw [norm_ok false hl (by rw [hl2]; split <;> simp), obs, trimL_of hl ht, hl2]
  simp only [Bool.false_and]
  by_cases hz : r = 0
  · subst hz
    rw [if_pos rfl, if_neg (by simp), ret_bind]
    refine (ret_loop (Post := fun u : Int => u = 0) 0 (fun k (s : Int × Int) => s = (0, 0)) rfl ?_ (by omega)).mono ?_
    · rintro k _ hk rfl
      exact ⟨_, rfl, rfl⟩
    · rintro _ rfl
      exact ⟨_, rfl, rfl⟩
  · rw [if_neg hz, if_neg (by simp), ret_bind]
    refine (ret_loop (Post := fun u : Int => u = r) 1 (fun k (s : Int × Int) => s = (if k = 0 then 0 else r, (k : Int))) rfl ?_ (by omega)).mono ?_
    · rintro k _ hk rfl
      unfold sparseref01_Int_l1
      simp only
      rw [ret_if]
      refine ⟨fun hlt => ?_, fun hge => ?_⟩
      · simp at hlt
        obtain rfl : k = 0 := by omega
        rw [ret_bind, ret_get]
        refine ⟨by omega, by simp, fun x hx => ?_⟩
        have hx : r = x := by simpa using hx
        subst hx
        have hwm : wm .i64 32 ((0 : Nat) : Int) = 0 := by rw [wm_i (by omega) (by omega)]; rfl
        have hws : wshl .u64 (wc .u64 r) 0 = some r := by
          rw [wc_u64_in ⟨h0, by omega⟩]
          unfold wshl
          rw [if_neg (by omega)]
          show some (IntKind.u64.wrap (r * 2 ^ (min (0 : Int).toNat 64))) = _
          rw [show (2 : Int) ^ (min (0 : Int).toNat 64) = 1 from rfl, Int.mul_one, IntWalk.u64_in _ ⟨h0, by omega⟩]
        rw [hwm, hws, obs]
        have hor : wor .u64 0 r = r := by
          have := wor_hi (x := 0) (y := r) ⟨by omega, by omega⟩ ⟨h0, h1⟩
          rw [Int.zero_mul, Int.zero_add] at this
          exact this
        refine ⟨_, rfl, by omega, ?_⟩
        rw [if_pos rfl, hor, if_neg (by omega), wa_i (by omega) (by omega)]
        rfl
      · simp at hge
        refine ⟨_, rfl, ?_⟩
        show (if k = 0 then (0 : Int) else r) = r
        rw [if_neg (by omega)]
    · rintro _ rfl
      rw [if_neg (by simp), if_neg (by omega)]
      refine ⟨_, rfl, ?_⟩
      rw [wc_i64_in ⟨by omega, by omega⟩]
theorem sign_ok {l : List Int} (s : Bool) (hl : LW l) (ht : Tm l) (hn : l.length ≤ 1000) : sparseref01_Sign s l = some (if l = [] then 0 else if s = true then -1 else 1) := by
  unfold sparseref01_Sign
  rw [norm_ok s hl (by omega), obs, trimL_of hl ht]
  simp only
  by_cases h : l = []
  · rw [if_pos (by rw [h]; rfl), if_pos h]
  · have hp := List.length_pos_iff.2 h
    rw [if_neg (by omega), if_neg h]
    have : decide ((0 : Int) < (l.length : Int)) = true := by simp; exact hp
    rw [this, Bool.and_true]
    split <;> rfl
theorem add_ok {a b : List Int} (s t : Bool) (ha : LW a) (hb : LW b) (hn : a.length ≤ 900) (hm : b.length ≤ 900) : Ret (sparseref01_Add s a t b) (fun r => LW r.2 ∧ Tm r.2 ∧ r.2.length ≤ 1001 ∧ (s = true → t = false → lv a < lv b → r.1 = false ∧ lv r.2 = lv b - lv a)) := by
  have la := trimL_len ha
  have lb := trimL_len hb
  have ta := trimL_lw ha
  have tb := trimL_lw hb
  have va := trimL_lv a
  have vb := trimL_lv b
  unfold sparseref01_Add
  rw [trimR_ok ha (by omega), obs, trimR_ok hb (by omega), obs, ret_if]
  have mk : ∀ (u : Bool) {r : List Int}, LW r → r.length ≤ 1001 → Ret ((sparseref01_make1 u r).bind fun r17 => some (r17.1, r17.2)) (fun x : Bool × List Int => LW x.2 ∧ Tm x.2 ∧ x.2.length ≤ 1001 ∧ lv x.2 = lv r ∧ (u = false → x.1 = false)) := by
    intro u r hr hrl
    rw [make1_ok u hr (by omega), obs]
    have := trimL_len hr
    exact ⟨_, rfl, trimL_lw hr, trimL_tm r, by show (trimL r).length ≤ 1001; omega, trimL_lv r, fun h => by rw [h]; rfl⟩
  refine ⟨fun hst => ?_, fun hst => ?_⟩
  · rw [ret_bind]
    refine (addMag_ok ta tb (by omega) (by omega)).mono fun r hr => ?_
    refine (mk s hr.1 hr.2.1).mono fun x hx => ⟨hx.1, hx.2.1, hx.2.2.1, fun h1 h2 _ => ?_⟩
    rw [h1, h2] at hst; cases hst
  · rw [cmpMag_ok ta tb (trimL_tm a) (trimL_tm b) (by omega) (by omega), obs, va, vb, ret_if]
    refine ⟨fun h => ?_, fun h => ?_⟩
    · have hle : lv b ≤ lv a := by
        refine Classical.byContradiction fun hc => ?_
        rw [if_pos (by omega)] at h; omega
      rw [ret_bind]
      have hll : (trimL b).length ≤ (trimL a).length := by
        refine Classical.byContradiction fun hc => ?_
        have := tm_len ta tb (trimL_tm a) (trimL_tm b) (by omega)
        omega
      refine (subMag_ok ta tb (by omega) hll (by omega)).mono fun r hr => ?_
      refine (mk s hr.1 hr.2.1).mono fun x hx => ⟨hx.1, hx.2.1, hx.2.2.1, fun _ _ h3 => absurd h3 (by omega)⟩
    · have hlt : lv a < lv b := by
        refine Classical.byContradiction fun hc => ?_
        rw [if_neg hc] at h
        split at h <;> omega
      rw [ret_bind]
      have hll : (trimL a).length ≤ (trimL b).length := by
        refine Classical.byContradiction fun hc => ?_
        have := tm_len tb ta (trimL_tm b) (trimL_tm a) (by omega)
        omega
      refine (subMag_ok tb ta (by omega) hll (by omega)).mono fun r hr => ?_
      refine (mk t hr.1 hr.2.1).mono fun x hx => ⟨hx.1, hx.2.1, hx.2.2.1, fun _ h2 _ => ⟨hx.2.2.2.2 h2, by rw [hx.2.2.2.1, hr.2.2, va, vb]⟩⟩
theorem reduceR_ok {s : Bool} {a : List Int} {p : Int} (ha : LW a) (hn : a.length ≤ 200) (hp : 0 < p) (hB : p < 2147483648) : sparseref07_Reduce s a p = some ((if s = true then - lv a else lv a) % p) := by
  have e : B = 4294967296 := rfl
  have hpl := lw_one hp (show p < B by omega)
  have hpt := tm_one hp
  have la := trimL_len ha
  obtain ⟨q, r, hd, q1, q2, r1, r2, r3⟩ := divMag1_ok (trimL_lw ha) (trimL_tm a) (by omega) hp (show p < B by omega)
  rw [trimL_lv] at r3
  have hr := Int.emod_nonneg (lv a) (show p ≠ 0 by omega)
  have hr2 := Int.emod_lt_of_pos (lv a) hp
  have lr := trimL_len r1
  have hrl1 : (trimL r).length ≤ 1 := len_le (trimL_lw r1) (trimL_tm r) (by rw [trimL_lv, r3]; simp [pw]; omega)
  have lp : lv [p] = p := by simp [lv]
  refine Ret.eq ?_
  unfold sparseref07_Reduce sparseref01_DivMod
  rw [fromR_ok hp (by omega), obs]
  simp only
  rw [norm_ok s ha (by omega), obs, norm_ok false hpl (by simp), obs, trimL_of hpl hpt]
  simp only [Bool.false_and]
  rw [hd, obs]
  simp only
  have hq := trimL_len q1
  rw [make1_ok _ q1 (by omega), obs, make1_ok _ r1 (by omega), obs]
  simp only
  rw [sign_ok _ (trimL_lw r1) (trimL_tm r) (by omega), obs]
  have fin : ∀ (x y : Bool) (u v : List Int), y = false → LW v → Tm v → lv v = (if s = true then - lv a else lv a) % p → Ret ((some (x, u, y, v)).bind fun r8 : Bool × List Int × Bool × List Int => (sparseref01_Int r8.2.2.1 r8.2.2.2).bind fun r16 => some r16.1) (fun z => z = (if s = true then - lv a else lv a) % p) := by
    intro x y u v hy hv tv hval
    subst hy
    have h1 := Int.emod_nonneg (if s = true then - lv a else lv a) (show p ≠ 0 by omega)
    have h2 := Int.emod_lt_of_pos (if s = true then - lv a else lv a) hp
    rw [obs]
    simp only
    rw [intR_ok h1 (by omega) hv tv hval, obs]
    exact ⟨_, rfl, rfl⟩
  by_cases hneg : s = true ∧ trimL a ≠ [] ∧ trimL r ≠ []
  · obtain ⟨hs, han, hrn⟩ := hneg
    subst hs
    have p1 := List.length_pos_iff.2 han
    have p2 := List.length_pos_iff.2 hrn
    have d1 : decide ((0 : Int) < ((trimL a).length : Int)) = true := by simp; exact p1
    have d2 : decide ((0 : Int) < ((trimL r).length : Int)) = true := by simp; exact p2
    rw [d1, d2]
    simp only [Bool.and_true, Bool.true_and]
    rw [if_neg hrn, if_pos (by simp)]
    have habs : sparseref01_Abs false [p] = some (false, [p]) := by
      unfold sparseref01_Abs
      rw [make1_ok false hpl (by simp), obs, trimL_of hpl hpt]; rfl
    have hr0 : lv r ≠ 0 := fun h => hrn ((lv_zero (trimL_lw r1) (trimL_tm r)).1 (by rw [trimL_lv]; exact h))
    obtain ⟨w, hw, w1, w2, w3, w4⟩ := add_ok (a := trimL r) (b := [p]) true false (trimL_lw r1) hpl (by omega) (by simp)
    rw [trimL_lv, lp, r3] at w4
    obtain ⟨w5, w6⟩ := w4 rfl rfl hr2
    have h1l : LW [(1 : Int)] := LW.one.2 ⟨by omega, by omega⟩
    have hneg1 : sparseref01_Neg false [1] = some (true, [1]) := by
      unfold sparseref01_Neg
      rw [make1_ok _ h1l (by simp), obs]; rfl
    have hqm : (trimL q).length ≤ 900 := by omega
    obtain ⟨z, hz, _⟩ := add_ok (a := trimL q) (b := [1]) (((!(true == false)) && decide ((0 : Int) < ((trimL q).length : Int)))) true (trimL_lw q1) h1l hqm (by simp)
    have hsub : sparseref01_Sub ((!(true == false)) && decide ((0 : Int) < ((trimL q).length : Int))) (trimL q) false [1] = some (z.1, z.2) := by
      unfold sparseref01_Sub
      rw [hneg1, obs]
      simp only
      rw [hz, obs]
    rw [habs, obs]
    simp only
    rw [hw, obs, if_neg (by simp), fromR_ok (by omega) (by omega), obs]
    simp only
    rw [hsub, obs]
    unfold sparseref01_DivMod_j4 sparseref01_DivMod_j3
    refine fin _ _ _ _ w5 w1 w2 ?_
    rw [w6, if_pos rfl]
    have hm := Int.mul_ediv_add_emod (lv a) p
    have hr0' : 0 < lv a % p := by omega
    have h8 : - lv a = (p - lv a % p) + p * (-(lv a / p) - 1) := by rw [Int.mul_sub, Int.mul_neg]; omega
    rw [h8, Int.add_mul_emod_self_left]
    exact (Int.emod_eq_of_lt (a := p - lv a % p) (b := p) (by omega) (by omega)).symm
  · have hz : (if trimL r = [] then (0 : Int) else if ((s && decide ((0 : Int) < ((trimL a).length : Int))) && decide ((0 : Int) < ((trimL r).length : Int))) = true then -1 else 1) = 0 ∨ (if trimL r = [] then (0 : Int) else if ((s && decide ((0 : Int) < ((trimL a).length : Int))) && decide ((0 : Int) < ((trimL r).length : Int))) = true then -1 else 1) = 1 := by
      split
      · exact .inl rfl
      · rename_i h1
        rw [if_neg]
        · exact .inr rfl
        · simp only [Bool.and_eq_true, decide_eq_true_eq]
          rintro ⟨⟨h2, h3⟩, _⟩
          exact hneg ⟨h2, fun h => by rw [h] at h3; simp at h3, h1⟩
    rw [if_neg (by omega)]
    unfold sparseref01_DivMod_j3
    refine fin _ _ _ _ ?_ (trimL_lw r1) (trimL_tm r) ?_
    · cases hc : ((s && decide ((0 : Int) < ((trimL a).length : Int))) && decide ((0 : Int) < ((trimL r).length : Int))) with
      | false => rfl
      | true =>
        exfalso
        simp only [Bool.and_eq_true, decide_eq_true_eq] at hc
        obtain ⟨⟨h2, h3⟩, h4⟩ := hc
        exact hneg ⟨h2, fun h => by rw [h] at h3; simp at h3, fun h => by rw [h] at h4; simp at h4⟩
    · rw [trimL_lv, r3]
      by_cases hs : s = true
      · rw [if_pos hs]
        have hz0 : lv a % p = 0 := by
          by_cases h1 : trimL a = []
          · have : lv a = 0 := by rw [← trimL_lv, h1]; rfl
            rw [this, Int.zero_emod]
          · have h2 : trimL r = [] := Classical.byContradiction fun h => hneg ⟨hs, h1, h⟩
            rw [← r3, ← trimL_lv, h2]; rfl
        rw [hz0, Int.neg_emod, if_pos (Int.dvd_of_emod_eq_zero hz0)]
      · rw [if_neg hs]
end Km
/- The law ModularNumbers. -/
namespace Km
open Sx Go M Vc Lm
theorem awake07 : sparselaw07_awake = some true := by kernel_rfl
theorem ret_loopM {τ ρ : Type} {step : τ → Option (τ ⊕ ρ)} {Post : ρ → Prop} (I : τ → Prop) (μ : τ → Nat) {s : τ} (h0 : I s) (hμ : μ s < 1099511627776)
    (h : ∀ t, I t → Ret (step t) (VQ (fun t' => I t' ∧ μ t' < μ t) Post)) : Ret (loop step s) Post := by
  have key : ∀ (fuel : Nat) (t : τ), μ t < fuel → I t → Ret (loopN step fuel t) Post := by
    intro fuel
    induction fuel with
    | zero => intro t h1; omega
    | succ n ih =>
      intro t h1 h2
      obtain ⟨x, hx, h3⟩ := h t h2
      cases x with
      | inr r => exact ⟨r, by simp [loopN, hx], h3⟩
      | inl t' =>
        obtain ⟨h4, h5⟩ := h3
        obtain ⟨y, hy, hp⟩ := ih t' (by omega) h4
        exact ⟨y, by simp [loopN, hx, hy], hp⟩
  exact key FUEL s hμ h0
theorem sq_le {i : Int} (h2 : 2 ≤ i) (h3 : i ≤ 46342) : 0 ≤ i * i ∧ i * i ≤ 46342 * 46342 := ⟨Int.mul_nonneg (by omega) (by omega), Int.mul_le_mul h3 h3 (by omega) (by omega)⟩
theorem prime_ret (x : Int) : Ret (modular_IsPrime x) (fun b => b = true → 2 ≤ x ∧ x ≤ 2147483647) := by
  unfold modular_IsPrime
  rw [ret_if]
  refine ⟨fun _ => ?_, fun hx => ?_⟩
  · exact ⟨_, rfl, fun h => by cases h⟩
  · have hx : 2 ≤ x ∧ x ≤ 2147483647 := by
      simp only [Bool.or_eq_true, decide_eq_true_eq, not_or] at hx; omega
    rw [ret_bind]
    refine (ret_loopM (Post := fun _ => True) (fun i => 2 ≤ i ∧ i ≤ 46342) (fun i => (46342 - i).toNat) (by decide) (by decide) ?_).mono ?_
    · rintro i ⟨h2, h3⟩
      obtain ⟨h4, h5⟩ := sq_le h2 h3
      unfold modular_IsPrime_l2
      rw [wm_i (by omega) (by omega)]
      split
      · rename_i hle
        have h6 : i ≤ 46341 := by
          refine Classical.byContradiction fun hc => ?_
          obtain rfl : i = 46342 := by omega
          omega
        rw [ret_bind, ret_wr]
        refine ⟨by omega, ?_⟩
        split
        · exact ⟨_, rfl, trivial⟩
        · refine ⟨_, rfl, ?_⟩
          rw [wa_i (by omega) (by omega)]
          exact ⟨⟨by omega, by omega⟩, by show (46342 - (i + 1)).toNat < (46342 - i).toNat; omega⟩
      · exact ⟨_, rfl, trivial⟩
    · rintro (_ | _) _
      · exact ⟨_, rfl, fun _ => hx⟩
      · exact ⟨_, rfl, fun _ => hx⟩
theorem mod_tot {a p : Int} (hp : p ≠ 0) : ∃ m, modular_mod a p = some m := by
  unfold modular_mod wr modular_mod_j1
  rw [if_neg hp, obs]
  split <;> exact ⟨_, rfl⟩
theorem wr_tot {a p : Int} (hp : p ≠ 0) : wr a p = some (a.tmod p) := by unfold wr; rw [if_neg hp]
theorem raise_tot {p : Int} (hp : p ≠ 0) (a : Int) {n : Int} (hn : n < 18446744073709551616) : ∃ z, loop (modular_raise_l3 p) (a, n, 1) = some z := by
  have h : Ret (loop (modular_raise_l3 p) (a, n, 1)) (fun _ => True) := by
    refine ret_loop 64 (fun k (s : Int × Int × Int) => s.2.1 < 2 ^ (64 - k)) hn ?_ (by omega)
    rintro k ⟨x, m, o⟩ hk hm
    simp only at hm
    unfold modular_raise_l3
    simp only
    rw [ret_if]
    refine ⟨fun h0 => ?_, fun _ => ⟨_, rfl, trivial⟩⟩
    have hk64 : k < 64 := by
      refine Classical.byContradiction fun hc => ?_
      obtain rfl : k = 64 := by omega
      simp at hm; omega
    have e4 : wqc .i64 m 2 < 2 ^ (64 - (k + 1)) := by
      have h9 : (2 : Int) ^ (64 - k) = 2 * 2 ^ (64 - (k + 1)) := by
        rw [show 64 - k = (64 - (k + 1)) + 1 by omega, Int.pow_succ, Int.mul_comm]
      have h8 : m / 2 < 2 ^ (64 - (k + 1)) := Int.ediv_lt_of_lt_mul (by omega) (by omega)
      have h7 : (2 : Int) ^ (64 - (k + 1)) ≤ 2 ^ 63 := by
        have h6 : (2 : Nat) ^ (64 - (k + 1)) ≤ 2 ^ 63 := Nat.pow_le_pow_right (by omega) (by omega)
        exact_mod_cast h6
      show IntKind.wrap .i64 (Int.tdiv m 2) < _
      rw [Int.tdiv_eq_ediv_of_nonneg (by omega), IntWalk.i64_in _ ⟨by omega, by omega⟩]
      exact h8
    have j4 : ∀ u, Ret (modular_raise_j4 x p m u) (VQ (fun t' : Int × Int × Int => k < 64 ∧ t'.2.1 < 2 ^ (64 - (k + 1))) (fun _ => True)) := by
      intro u
      unfold modular_raise_j4
      rw [wr_tot hp, obs]
      exact ⟨_, rfl, hk64, e4⟩
    rw [ret_if]
    refine ⟨fun _ => ?_, fun _ => j4 _⟩
    rw [wr_tot hp, obs]
    exact j4 _
  obtain ⟨z, hz, _⟩ := h
  exact ⟨z, hz⟩
theorem modularNumbers_true (s : Bool) (l : List Int) (n k p : Int) (hl : LW l) (hk : k < 18446744073709551616) : sparselaw07_ModularNumbers s l n k p = some true := by
  refine Ret.eq ?_
  have ref3 : sparseref07_Power_l3 = modular_raise_l3 := rfl
  have refM : sparseref07_Mod = modular_mod := rfl
  have done : ∀ {Q : Bool → Prop}, Q true → Ret (sparselaw07_awake.bind fun r => some r) Q := fun h => by rw [awake07, obs]; exact ⟨_, rfl, h⟩
  unfold sparselaw07_ModularNumbers sparsekit_Slim
  rw [obs]
  by_cases hlen : ((l.length : Int) ≤ 40)
  · rw [if_pos (by simpa using hlen)]
    unfold sparselaw07_modulus
    rw [obs, obs, ret_if]
    refine ⟨fun _ => done rfl, fun _ => ?_⟩
    obtain ⟨b, hb, hb2⟩ := prime_ret p
    have hbR : sparseref07_IsPrime p = some b := hb
    cases b with
    | false =>
      have e1 : modular_Reduce s l p = some (0, 70) := by unfold modular_Reduce; rw [hb, obs, if_neg (by simp)]
      have e2 : modular_Inverse n p = some (0, 70) := by unfold modular_Inverse; rw [hb, obs, if_neg (by simp)]
      have e3 : modular_Power n k p = some (0, 70) := by unfold modular_Power; rw [hb, obs, if_neg (by simp)]
      rw [e1, obs, e2, obs, e3, obs, hbR, obs, if_neg (by simp), if_pos (by simp), ret_bind]
      exact done ⟨_, rfl, rfl⟩
    | true =>
      obtain ⟨p2, pm⟩ := hb2 rfl
      have hp0 : p ≠ 0 := by omega
      obtain ⟨m, hm⟩ := mod_tot (a := n) hp0
      have hrem := remainder_ok (s := s) hl (show l.length ≤ 900 by omega) (show 0 < p by omega) (show p < 2147483648 by omega)
      have hremR := reduceR_ok (s := s) hl (show l.length ≤ 200 by omega) (show 0 < p by omega) (show p < 2147483648 by omega)
      generalize (if s = true then - lv l else lv l) % p = v at hrem hremR
      have e1 : modular_Reduce s l p = some (v, 0) := by unfold modular_Reduce; rw [hb, obs, if_pos rfl, hrem, obs]
      obtain ⟨iv, hiv⟩ := raise_tot hp0 m (n := ws .i64 p 2) (by rw [ws_i (by omega) (by omega)]; omega)
      have e2 : modular_Inverse n p = some (if m = 0 then (0, 8) else (iv, 0)) := by
        unfold modular_Inverse modular_inverse modular_raise
        rw [hb, obs, if_pos rfl, hm, obs]
        by_cases hz : m = 0
        · rw [if_pos hz, if_pos hz]
        · rw [if_neg hz, if_neg hz, obs, hiv, obs, obs, obs]
      have e2R : sparseref07_Inverse n p = some iv := by
        unfold sparseref07_Inverse sparseref07_Power
        rw [refM, hm, obs, ref3, hiv, obs, obs]
      obtain ⟨pw', hpw⟩ := raise_tot hp0 m hk
      have e3 : modular_Power n k p = some (if k < 0 then (0, 11) else (pw', 0)) := by
        unfold modular_Power modular_raise
        rw [hb, obs, if_pos rfl]
        by_cases hz : k < 0
        · rw [if_pos hz, if_pos hz]
        · rw [if_neg hz, if_neg hz, hm, obs, hpw, obs, obs]
      have e3R : sparseref07_Power n k p = some pw' := by
        unfold sparseref07_Power
        rw [refM, hm, obs, ref3, hpw, obs]
      have j5 : Ret (sparselaw07_ModularNumbers_j5 k (if k < 0 then (0, 11) else (pw', 0)) n p) (fun y => y = true) := by
        unfold sparselaw07_ModularNumbers_j5
        by_cases hz : k < 0
        · rw [if_pos hz, if_pos hz, if_pos (by simp), ret_bind]
          exact done ⟨_, rfl, rfl⟩
        · rw [if_neg hz, if_neg hz, if_pos rfl, e3R, obs, obs, if_pos (by simp), ret_bind]
          exact done ⟨_, rfl, rfl⟩
      rw [e1, obs, e2, obs, e3, obs, hbR, obs, if_pos rfl, if_pos rfl, hremR, obs, obs, if_neg (by simp), refM, hm, obs]
      by_cases hz : m = 0
      · rw [if_pos hz, if_pos hz, if_neg (by simp)]
        exact j5
      · rw [if_neg hz, if_neg hz, if_pos rfl, e2R, obs, obs, if_neg (by simp)]
        exact j5
  · rw [if_neg (by simpa using hlen), obs, if_pos rfl]
    exact done rfl
theorem wf_i64 {n : Int} (h : Wf .i64 n) : -9223372036854775808 ≤ n ∧ n ≤ 9223372036854775807 := by
  simp only [Wf, Lit.wf, Bool.and_eq_true, decide_eq_true_eq] at h
  have e : IntKind.max .i64 = 9223372036854775807 := by decide
  have f : IntKind.min .i64 = -9223372036854775808 := by decide
  omega
theorem wf_u32 {n : Int} (h : Wf .u32 n) : 0 ≤ n ∧ n < B := by
  simp only [Wf, Lit.wf, Bool.and_eq_true, decide_eq_true_eq] at h
  have e : IntKind.max .u32 = 4294967295 := by decide
  have f : IntKind.min .u32 = 0 := by decide
  unfold B
  omega
theorem lw_ok {l : List Int} (h : okL (Wf .u32) l) : LW l := fun x hx => wf_u32 (h.2 x hx)
theorem modularNumbers_t (s : Bool) (l : List Int) (n k p : Int) (hl : okL (Wf .u32) l) (_ : Wf .i64 n) (hk : Wf .i64 k) (_ : Wf .i64 p) : sparselaw07_ModularNumbers s l n k p = some true :=
  modularNumbers_true s l n k p (lw_ok hl) (by have := wf_i64 hk; omega)
end Km
