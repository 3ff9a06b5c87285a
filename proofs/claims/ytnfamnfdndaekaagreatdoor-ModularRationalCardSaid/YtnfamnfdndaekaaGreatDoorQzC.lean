/- Shifts of limbs by less than a limb; windows. -/
import Derived.Test.YtnfamnfdndaekaaGreatDoorQzB
import Derived.Test.YtnfamnfdndaekaaGreatDoorQzA
import Derived.Test.YtnfamnfdndaekaaGreatDoorSxR
set_option linter.unusedVariables false
set_option linter.unusedSimpArgs false
set_option maxHeartbeats 4000000
namespace Km
open Sx Go M Vc Lm
theorem bv32 {x : Int} (h : 0 ≤ x ∧ x < 4294967296) : (BitVec.ofInt 32 x).toNat = x.toNat := by
  rw [BitVec.toNat_ofInt]
  have : x % ((2 ^ 32 : Nat) : Int) = x := Int.emod_eq_of_lt h.1 (by exact h.2)
  rw [this]
theorem wor32 {s : Nat} {c k : Int} (hs : s < 32) (hc : 0 ≤ c ∧ c < 2 ^ s) (hk : 0 ≤ k) (hb : c + 2 ^ s * k < 4294967296) : wor .u32 c (2 ^ s * k) = c + 2 ^ s * k := by
  obtain ⟨C, rfl⟩ := Int.eq_ofNat_of_zero_le hc.1
  obtain ⟨K, rfl⟩ := Int.eq_ofNat_of_zero_le hk
  have hC : C < 2 ^ s := by exact_mod_cast hc.2
  have e2 : ((2 : Int) ^ s * (K : Int)) = ((2 ^ s * K : Nat) : Int) := by push_cast; rfl
  rw [e2] at hb ⊢
  unfold wor
  have e3 : (BitVec.ofInt 32 (C : Int) ||| BitVec.ofInt 32 ((2 ^ s * K : Nat) : Int)).toNat = 2 ^ s * K + C := by
    rw [BitVec.toNat_or, bv32 (by omega), bv32 (by omega), Int.toNat_natCast, Int.toNat_natCast, Nat.or_comm, ← Nat.two_pow_add_eq_or_of_lt hC]
  show IntKind.u32.wrap ((BitVec.ofInt 32 (C : Int) ||| BitVec.ofInt 32 ((2 ^ s * K : Nat) : Int)).toNat : Int) = _
  rw [e3, IntKind.wrap_u32]
  omega
theorem two_pow {s : Nat} (hs : s < 32) : 0 < (2 : Int) ^ s ∧ (2 : Int) ^ s ≤ 2147483648 ∧ (2 : Int) ^ s * 2 ^ (32 - s) = B ∧ 0 < (2 : Int) ^ (32 - s) := by
  refine ⟨Int.pow_pos (by omega), ?_, ?_, Int.pow_pos (by omega)⟩
  · have h9 : ((2 ^ s : Nat) : Int) ≤ ((2147483648 : Nat) : Int) := Int.ofNat_le.2 (Nat.le_trans (Nat.pow_le_pow_right (n := 2) (j := 31) (by omega) (by omega)) (by decide))
    rw [Int.natCast_pow] at h9
    exact h9
  · rw [← Int.pow_add, show s + (32 - s) = 32 by omega]; rfl
theorem small_shift {s : Nat} (hs : s < 32) : wqc .i64 (s : Int) 32 = 0 ∧ wrc (s : Int) 32 = (s : Int) := by
  constructor
  · show IntKind.wrap .i64 (Int.tdiv (s : Int) 32) = 0
    rw [Int.tdiv_eq_ediv_of_nonneg (by omega), Int.ediv_eq_zero_of_lt (by omega) (by omega)]; rfl
  · show Int.tmod (s : Int) 32 = _
    rw [Int.tmod_eq_emod_of_nonneg (by omega), Int.emod_eq_of_lt (by omega) (by omega)]
/-- the low part of a limb times a power of two -/
theorem shl_low {s : Nat} (hs : s < 32) {x : Int} (hx : 0 ≤ x ∧ x < B) : ∃ k, 0 ≤ k ∧ x * 2 ^ s % B = 2 ^ s * k ∧ 2 ^ s * k + 2 ^ s ≤ B ∧ 0 ≤ x * 2 ^ s / B ∧ x * 2 ^ s / B < 2 ^ s := by
  obtain ⟨h1, h2, h3, h4⟩ := two_pow hs
  have e : x * 2 ^ s % B = 2 ^ s * (x % 2 ^ (32 - s)) := by
    rw [← h3, Int.mul_comm x, Int.mul_emod_mul_of_pos _ _ h1]
  have m0 := Int.emod_nonneg x (show (2 : Int) ^ (32 - s) ≠ 0 by omega)
  have m1 := Int.emod_lt_of_pos x h4
  refine ⟨x % 2 ^ (32 - s), m0, e, ?_, Int.ediv_nonneg (Int.mul_nonneg hx.1 (by omega)) (by unfold B; omega), ?_⟩
  · have : 2 ^ s * (x % 2 ^ (32 - s) + 1) ≤ 2 ^ s * 2 ^ (32 - s) := Int.mul_le_mul_of_nonneg_left (by omega) (by omega)
    rw [Int.mul_add, h3, Int.mul_one] at this
    exact this
  · refine Int.ediv_lt_of_lt_mul (by unfold B; omega) ?_
    rw [Int.mul_comm]
    exact Int.mul_lt_mul_of_pos_left hx.2 h1
theorem up_ok {a : List Int} (ha : LW a) (hn : a.length ≤ 1000) (hne : a ≠ []) {s : Nat} (hs : s < 32) : Ret (integer_up a (s : Int)) (fun u => LW u ∧ Tm u ∧ lv u = lv a * 2 ^ s) := by
  have e : B = 4294967296 := rfl
  obtain ⟨hq, hr⟩ := small_shift hs
  obtain ⟨p1, p2, p3, p4⟩ := two_pow hs
  have hal : 0 < a.length := List.length_pos_iff.2 hne
  unfold integer_up
  rw [if_neg (by omega), hq, wa_i (x := 0) (by omega) (by omega), Int.zero_add, wa_i (by omega) (by omega), ret_bind, ret_mkL]
  refine ⟨by omega, by omega, ?_⟩
  rw [show ((a.length : Int) + 1).toNat = a.length + 1 by omega, ret_bind]
  refine (ret_loop (Post := fun o : List Int => LW o ∧ o.length = a.length + 1 ∧ lv o = lv a * 2 ^ s) a.length (fun i (t : List Int × Int) => t.2 = (i : Int) ∧ LW t.1 ∧ t.1.length = a.length + 1 ∧ lv t.1 = lv (a.take i) * 2 ^ s ∧ t.1.drop (i + 1) = List.replicate (a.length - i) 0 ∧ (∀ x, t.1[i]? = some x → x < 2 ^ s)) ⟨rfl, lw_zeros _, List.length_replicate .., by rw [lv_zeros, List.take_zero]; simp [lv], by rw [List.drop_replicate]; congr 1, fun x hx => by rw [List.getElem?_replicate] at hx; split at hx <;> simp at hx; omega⟩ ?_ (by omega)).mono ?_
  · rintro i ⟨o, _⟩ hi ⟨rfl, h1, h2, h3, h4, h5⟩
    simp only at h1 h2 h3 h4 h5
    unfold integer_up_l1
    simp only
    rw [ret_if]
    refine ⟨fun hlt => ?_, fun hge => ⟨_, rfl, h1, h2, by have ei : i = a.length := (by omega); subst ei; rw [List.take_length] at h3; exact h3⟩⟩
    have hia : i < a.length := by omega
    rw [ret_bind, ret_get]
    refine ⟨by omega, hlt, fun x hx => ?_⟩
    rw [Int.toNat_natCast] at hx
    have hxB := LW.get ha hx
    have hx2 : 0 ≤ x * 2 ^ s := Int.mul_nonneg hxB.1 (by omega)
    have hx3 : x * 2 ^ s ≤ (B - 1) * 2 ^ s := Int.mul_le_mul_of_nonneg_right (by omega) (by omega)
    have hx4 : (B - 1) * 2 ^ s ≤ (B - 1) * 2147483648 := Int.mul_le_mul_of_nonneg_left p2 (by omega)
    have hsh : wshl .u64 (wc .u64 x) (wc .u64 (s : Int)) = some (x * 2 ^ s) := by
      rw [wc_u64_in ⟨hxB.1, by omega⟩, wc_u64_in (x := (s : Int)) ⟨by omega, by omega⟩]
      unfold wshl
      rw [if_neg (by omega), Int.toNat_natCast]
      show some (IntKind.u64.wrap (x * 2 ^ min s 64)) = _
      rw [Nat.min_eq_left (by omega), IntWalk.u64_in _ ⟨hx2, by omega⟩]
    obtain ⟨k, k0, k1, k2, k3, k4⟩ := shl_low hs hxB
    have hd := Int.mul_ediv_add_emod (x * 2 ^ s) B
    have hmm := Int.emod_nonneg (x * 2 ^ s) (show B ≠ 0 by omega)
    rw [hq, hr, hsh, obs, wa_i (x := 0) (by omega) (by omega), Int.zero_add, ret_bind, ret_get]
    refine ⟨by omega, by omega, fun y hy => ?_⟩
    rw [Int.toNat_natCast] at hy
    have hyB := LW.get h1 hy
    have hys := h5 y hy
    rw [wand_low ⟨hx2, by omega⟩, wsrc32 hx2, wc_u32_in ⟨k3, by omega⟩, wc_u32_in (x := x * 2 ^ s % B) ⟨by omega, by omega⟩]
    have hor : wor .u32 y (x * 2 ^ s % B) = y + x * 2 ^ s % B := by rw [k1]; exact wor32 hs ⟨hyB.1, hys⟩ k0 (by omega)
    rw [hor, ret_bind, ret_set, Int.toNat_natCast]
    refine ⟨by omega, by omega, ?_⟩
    rw [wa_i (x := (i : Int)) (y := 1) (by omega) (by omega), ret_bind, ret_set]
    have hl1 : (o.set i (y + x * 2 ^ s % B)).length = a.length + 1 := by rw [List.length_set, h2]
    have hz : (o.set i (y + x * 2 ^ s % B))[i + 1]? = some 0 := by
      rw [List.getElem?_set_ne (by omega)]
      have e1 : (o.drop (i + 1))[0]? = o[i + 1]? := by rw [List.getElem?_drop]
      rw [← e1, h4, List.getElem?_replicate, if_pos (by omega)]
    refine ⟨by omega, by omega, _, rfl, hia, rfl, ?_, ?_, ?_, ?_, ?_⟩
    · rw [show ((i : Int) + 1).toNat = i + 1 by omega]
      exact lw_set (lw_set h1 ⟨by omega, by omega⟩) ⟨k3, by omega⟩
    · rw [show ((i : Int) + 1).toNat = i + 1 by omega]
      show ((o.set i (y + x * 2 ^ s % B)).set (i + 1) _).length = _
      rw [List.length_set, hl1]
    · rw [show ((i : Int) + 1).toNat = i + 1 by omega]
      show lv ((o.set i (y + x * 2 ^ s % B)).set (i + 1) (x * 2 ^ s / B)) = _
      rw [lv_set hz, lv_set hy, h3, take_succ hx]
      simp only [pw]
      have e3 : pw i * (B * (x * 2 ^ s / B) + x * 2 ^ s % B) = pw i * (x * 2 ^ s) := by rw [hd]
      generalize x * 2 ^ s / B = q at *
      generalize x * 2 ^ s % B = r at *
      grind
    · rw [show ((i : Int) + 1).toNat = i + 1 by omega]
      show ((o.set i (y + x * 2 ^ s % B)).set (i + 1) (x * 2 ^ s / B)).drop (i + 1 + 1) = _
      rw [List.drop_set_of_lt (by omega), List.drop_set_of_lt (by omega), ← List.drop_drop, h4, List.drop_replicate]
      congr 1
    · rw [show ((i : Int) + 1).toNat = i + 1 by omega]
      intro z hz2
      have hz2 : ((o.set i (y + x * 2 ^ s % B)).set (i + 1) (x * 2 ^ s / B))[i + 1]? = some z := hz2
      rw [List.getElem?_set_self (by omega)] at hz2
      obtain rfl := Option.some.inj hz2
      exact k4
  · rintro o ⟨h1, h2, h3⟩
    rw [trim_ok h1 (by omega), obs]
    exact ⟨_, rfl, trimL_lw h1, trimL_tm _, by rw [trimL_lv]; exact h3⟩
/-- one limb of a number that is halved s times -/
theorem shr_limb {s : Nat} (hs : s < 32) {x y E : Int} (hx : 0 ≤ x ∧ x < B) (hy : 0 ≤ y) : (x + B * (y + B * E)) / 2 ^ s = ((x + B * y) / 2 ^ s) % B + B * ((y + B * E) / 2 ^ s) := by
  obtain ⟨p1, p2, p3, p4⟩ := two_pow hs
  have e : B = 4294967296 := rfl
  generalize hP : (2 : Int) ^ s = P at *
  generalize hQ : (2 : Int) ^ (32 - s) = Q at *
  have hy1 := Int.mul_ediv_add_emod y P
  have r0 := Int.emod_nonneg y (show P ≠ 0 by omega)
  have r1 := Int.emod_lt_of_pos y p1
  generalize hk : y / P = k at *
  generalize hr : y % P = r at *
  have w0 : 0 ≤ B * r := Int.mul_nonneg (by omega) r0
  have hA : (y + B * E) / P = k + Q * E := by
    have e1 : y + B * E = r + P * (k + Q * E) := by rw [← hy1, ← p3]; grind
    rw [e1, Int.add_mul_ediv_left _ _ (by omega), Int.ediv_eq_zero_of_lt r0 r1]; omega
  have hBq : (x + B * y) / P = (x + B * r) / P + B * k := by
    have e1 : x + B * y = (x + B * r) + P * (B * k) := by rw [← hy1]; grind
    rw [e1, Int.add_mul_ediv_left _ _ (by omega)]
  have hC : (x + B * (y + B * E)) / P = (x + B * r) / P + B * (k + Q * E) := by
    have e1 : x + B * (y + B * E) = (x + B * r) + P * (B * (k + Q * E)) := by rw [← hy1]; have : B * E = P * (Q * E) := (by rw [← p3]; grind); rw [this]; grind
    rw [e1, Int.add_mul_ediv_left _ _ (by omega)]
  have q0 : 0 ≤ (x + B * r) / P := Int.ediv_nonneg (by omega) (by omega)
  have q1 : (x + B * r) / P < B := by
    refine Int.ediv_lt_of_lt_mul (by omega) ?_
    have : B * (r + 1) ≤ B * P := Int.mul_le_mul_of_nonneg_left (by omega) (by omega)
    rw [Int.mul_add, Int.mul_one] at this
    omega
  rw [hA, hBq, hC, Int.add_mul_emod_self_left, Int.emod_eq_of_lt q0 q1]
theorem lv_drop {l : List Int} {i : Nat} {x : Int} (hx : l[i]? = some x) : lv (l.drop i) = x + B * lv (l.drop (i + 1)) := by
  obtain ⟨h1, h2⟩ := List.getElem?_eq_some_iff.1 hx
  rw [List.drop_eq_getElem_cons h1, h2]; rfl
theorem LW.drop {l : List Int} (h : LW l) (k : Nat) : LW (l.drop k) := fun x hx => h x (List.mem_of_mem_drop hx)
theorem take_drop (l : List Int) {k : Nat} (h : k ≤ l.length) : lv l = lv (l.take k) + pw k * lv (l.drop k) := by
  have h1 : lv l = lv (l.take k ++ l.drop k) := by rw [List.take_append_drop]
  rw [h1, lv_app, List.length_take, Nat.min_eq_left h]
theorem has_ok {l : List Int} : slices_ContainsFunc_uint32 ([] : List Int) = some false := by
  refine Ret.eq ?_
  unfold slices_ContainsFunc_uint32 slices_IndexFunc_uint32
  rw [ret_bind, ret_bind]
  refine (ret_loop (Post := fun o => o = .inl ()) 0 (fun k (i : Int) => i = 0) rfl ?_ (by omega)).mono ?_
  · rintro k _ hk rfl
    unfold slices_IndexFunc_uint32_l1
    rw [if_neg (by simp)]
    exact ⟨_, rfl, rfl⟩
  · rintro _ rfl
    exact ⟨_, rfl, _, rfl, rfl⟩
theorem down_ok {a : List Int} (ha : LW a) (hn : a.length ≤ 1000) {s : Nat} (hs : s < 32) : Ret (integer_down a (s : Int)) (fun r => LW r.1 ∧ Tm r.1 ∧ lv r.1 = lv a / 2 ^ s) := by
  have e : B = 4294967296 := rfl
  obtain ⟨hq, hr⟩ := small_shift hs
  obtain ⟨p1, p2, p3, p4⟩ := two_pow hs
  unfold integer_down
  rw [hq, ret_if]
  refine ⟨fun h0 => ⟨_, rfl, by intro x hx; simp at hx, tm_nil, ?_⟩, fun h0 => ?_⟩
  · rw [show a = [] from List.eq_nil_of_length_eq_zero (by omega)]
    show (0 : Int) = 0 / 2 ^ s
    rw [Int.zero_ediv]
  have hsl : sli a 0 0 = some [] := by unfold sli subL; rw [if_pos ⟨by omega, by omega, by omega⟩]; simp
  rw [hsl, obs, has_ok (l := []), obs, if_neg (by simp), ret_bind]
  obtain ⟨x0, hx0⟩ : ∃ x0, a[0]? = some x0 := ⟨a[0]'(by omega), List.getElem?_eq_getElem (by omega)⟩
  have hsh1 : ∃ z, wshl .u32 1 (wc .u64 (s : Int)) = some z := by unfold wshl; rw [wc_u64_in ⟨by omega, by omega⟩, if_neg (by omega)]; exact ⟨_, rfl⟩
  obtain ⟨z1, hz1⟩ := hsh1
  have hg0 : getI a 0 = some x0 := Ret.eq (by rw [ret_get]; exact ⟨by omega, by omega, fun x hx => Option.some.inj (hx.symm.trans hx0)⟩)
  rw [hg0, obs, hr, hz1, obs, ret_some, ret_bind, ws_i (by omega) (by omega), Int.sub_zero, ret_mkL]
  refine ⟨by omega, by omega, ?_⟩
  rw [Int.toNat_natCast, ret_bind]
  refine (ret_loop (Post := fun o : List Int => LW o ∧ o.length = a.length ∧ lv o = lv a / 2 ^ s) a.length (fun i (t : List Int × Int) => t.2 = (i : Int) ∧ LW t.1 ∧ t.1.length = a.length ∧ lv (t.1.take i) + pw i * (lv (a.drop i) / 2 ^ s) = lv a / 2 ^ s) ⟨rfl, lw_zeros _, List.length_replicate .., by simp [lv, pw]⟩ ?_ (by omega)).mono ?_
  · rintro i ⟨o, _⟩ hi ⟨rfl, h1, h2, h3⟩
    simp only at h1 h2 h3
    unfold integer_down_l4
    simp only
    rw [List.length_replicate, ret_if]
    refine ⟨fun hlt => ?_, fun hge => ⟨_, rfl, h1, h2, ?_⟩⟩
    · have hia : i < a.length := by omega
      rw [hq, wa_i (x := 0) (by omega) (by omega), Int.zero_add, ret_bind, ret_get]
      refine ⟨by omega, by omega, fun x hx => ?_⟩
      rw [Int.toNat_natCast] at hx
      have hxB := LW.get ha hx
      have key : ∀ y E : Int, 0 ≤ y → y < B → 0 ≤ E → lv (a.drop (i + 1)) = y + B * E → Ret (integer_down_j5 (s : Int) o (i : Int) (x + B * y)) (VQ (fun t' : List Int × Int => i < a.length ∧ t'.2 = ((i + 1 : Nat) : Int) ∧ LW t'.1 ∧ t'.1.length = a.length ∧ lv (t'.1.take (i + 1)) + pw (i + 1) * (lv (a.drop (i + 1)) / 2 ^ s) = lv a / 2 ^ s) (fun o : List Int => LW o ∧ o.length = a.length ∧ lv o = lv a / 2 ^ s)) := by
        intro y E y0 y1 E0 hE
        unfold integer_down_j5
        have t0 : 0 ≤ x + B * y := by have := Int.mul_nonneg (show 0 ≤ B by omega) y0; omega
        have t1 : x + B * y < 18446744073709551616 := by rw [e]; omega
        have hsh : wshr .u64 (x + B * y) (wc .u64 (wrc (s : Int) 32)) = some ((x + B * y) / 2 ^ s) := by
          rw [hr, wc_u64_in (x := (s : Int)) ⟨by omega, by omega⟩]
          unfold wshr
          rw [if_neg (by omega), Int.toNat_natCast]
          show some (Int.fdiv _ (2 ^ min s 64)) = _
          rw [Nat.min_eq_left (by omega), Int.fdiv_eq_ediv_of_nonneg _ (by omega)]
        have d0 : 0 ≤ (x + B * y) / 2 ^ s := Int.ediv_nonneg t0 (by omega)
        have d1 : (x + B * y) / 2 ^ s ≤ x + B * y := Int.ediv_le_self _ t0
        have hm := Int.emod_nonneg ((x + B * y) / 2 ^ s) (show B ≠ 0 by omega)
        have hm2 := Int.emod_lt_of_pos ((x + B * y) / 2 ^ s) (show 0 < B by omega)
        rw [hsh, obs, wand_low ⟨d0, by omega⟩, wc_u32_in ⟨hm, hm2⟩, ret_bind, ret_set, Int.toNat_natCast]
        refine ⟨by omega, by omega, _, rfl, hia, by show wa .i64 (i : Int) 1 = _; rw [wa_i (by omega) (by omega)]; rfl, lw_set h1 ⟨hm, hm2⟩, by show (o.set i _).length = _; rw [List.length_set, h2], ?_⟩
        show lv ((o.set i ((x + B * y) / 2 ^ s % B)).take (i + 1)) + pw (i + 1) * (lv (a.drop (i + 1)) / 2 ^ s) = _
        have hs2 : (o.set i ((x + B * y) / 2 ^ s % B))[i]? = some ((x + B * y) / 2 ^ s % B) := by rw [List.getElem?_set_self]; omega
        rw [take_succ hs2, List.take_set, List.set_eq_of_length_le (by rw [List.length_take]; omega), ← h3, lv_drop hx, hE, shr_limb hs hxB y0]
        simp only [pw]
        generalize (x + B * y) / 2 ^ s % B = u
        generalize (y + B * E) / 2 ^ s = v
        grind
      have hcx : wc .u64 x = x := wc_u64_in ⟨hxB.1, by omega⟩
      rw [wa_i (x := (i : Int)) (by omega) (by omega), ret_if]
      refine ⟨fun hl2 => ?_, fun hl2 => ?_⟩
      · rw [ret_bind, ret_get]
        refine ⟨by omega, by omega, fun y hy => ?_⟩
        rw [show ((i : Int) + 1).toNat = i + 1 by omega] at hy
        have hyB := LW.get ha hy
        have hor : wor .u64 (wc .u64 x) (wslc .u64 (wc .u64 y) 32) = x + B * y := by
          rw [hcx, wc_u64_in (x := y) ⟨hyB.1, by omega⟩, wslc32 hyB]
          have : wor .u64 x (y * B) = wor .u64 (y * B) x := by unfold wor; rw [BitVec.or_comm]
          rw [this, wor_hi hyB hxB, Int.mul_comm]; omega
        rw [hor]
        exact key y (lv (a.drop (i + 1 + 1))) hyB.1 hyB.2 (lv_nn (LW.drop ha _)) (lv_drop hy)
      · have hE : lv (a.drop (i + 1)) = 0 := by rw [List.drop_of_length_le (by omega)]; rfl
        have := key 0 0 (by omega) (by omega) (by omega) (by rw [hE]; rfl)
        rw [Int.mul_zero, Int.add_zero] at this
        rw [hcx]
        exact this
    · have ei : i = a.length := by omega
      subst ei
      rw [List.drop_length, take_all (by omega)] at h3
      show lv o = _
      rw [← h3]
      show lv o = lv o + pw a.length * (0 / 2 ^ s)
      rw [Int.zero_ediv]; omega
  · rintro o ⟨h1, h2, h3⟩
    rw [trim_ok h1 (by omega), obs]
    exact ⟨_, rfl, trimL_lw h1, trimL_tm _, by rw [trimL_lv]; exact h3⟩
/-! ### windows -/
theorem ret_getW {A W Z : List Int} {lo hi i : Int} (hlo : lo = (A.length : Int)) (hhi : hi = (A.length : Int) + W.length) {Q : Int → Prop} : Ret (getW (A ++ W ++ Z) lo hi i) Q = (0 ≤ i ∧ i < W.length ∧ ∀ x, W[i.toNat]? = some x → Q x) := by
  subst hlo hhi
  unfold getW
  by_cases h : 0 ≤ i ∧ i < W.length
  · rw [if_pos ⟨by omega, h.1, by omega, by simp only [List.length_append]; omega⟩, ret_get]
    have e1 : (A ++ W ++ Z)[((A.length : Int) + i).toNat]? = W[i.toNat]? := by
      rw [show ((A.length : Int) + i).toNat = A.length + i.toNat by omega, List.append_assoc, List.getElem?_append_right (by omega), Nat.add_sub_cancel_left, List.getElem?_append_left (by omega)]
    rw [e1]
    apply propext
    constructor
    · rintro ⟨_, _, h3⟩; exact ⟨h.1, h.2, h3⟩
    · rintro ⟨_, _, h3⟩; exact ⟨by omega, by simp only [List.length_append]; omega, h3⟩
  · rw [if_neg (by rintro ⟨_, h1, h2, _⟩; exact h ⟨h1, by omega⟩), ret_none]
    apply propext
    exact ⟨False.elim, fun ⟨h1, h2, _⟩ => h ⟨h1, h2⟩⟩
theorem ret_setW {A W Z : List Int} {lo hi i z : Int} (hlo : lo = (A.length : Int)) (hhi : hi = (A.length : Int) + W.length) {Q : List Int → Prop} : Ret (setW (A ++ W ++ Z) lo hi i z) Q = (0 ≤ i ∧ i < W.length ∧ Q (A ++ W.set i.toNat z ++ Z)) := by
  subst hlo hhi
  unfold setW
  by_cases h : 0 ≤ i ∧ i < W.length
  · rw [if_pos ⟨by omega, h.1, by omega, by simp only [List.length_append]; omega⟩, ret_set]
    have e1 : (A ++ W ++ Z).set ((A.length : Int) + i).toNat z = A ++ W.set i.toNat z ++ Z := by
      rw [show ((A.length : Int) + i).toNat = A.length + i.toNat by omega, List.append_assoc, List.set_append_right _ _ (by omega), Nat.add_sub_cancel_left, List.set_append_left _ _ (by omega), List.append_assoc]
    rw [e1]
    apply propext
    constructor
    · rintro ⟨_, _, h3⟩; exact ⟨h.1, h.2, h3⟩
    · rintro ⟨_, _, h3⟩; exact ⟨by omega, by simp only [List.length_append]; omega, h3⟩
  · rw [if_neg (by rintro ⟨_, h1, h2, _⟩; exact h ⟨h1, by omega⟩), ret_none]
    apply propext
    exact ⟨False.elim, fun ⟨h1, h2, _⟩ => h ⟨h1, h2⟩⟩
end Km
/- Knuth's algorithm D: one digit of the quotient (the program's). -/
namespace Km
open Sx Go M Vc Lm
/-- the first limbs of divisor and dividend -/
structure KD (U V S us vs w1 w2 wt v2 vt Q : Int) : Prop where
  hS : 0 < S
  hv : V = (vt * B + v2) * S + vs
  hvs : 0 ≤ vs ∧ vs < S
  hv2 : 0 ≤ v2 ∧ v2 < B
  hvt : 2147483648 ≤ vt ∧ vt < B
  hu : U = ((wt * B + w1) * B + w2) * S + us
  hus : 0 ≤ us ∧ us < S
  hw2 : 0 ≤ w2 ∧ w2 < B
  hw1 : 0 ≤ w1 ∧ w1 < B
  hwt : 0 ≤ wt ∧ wt < B
  hlt : U < V * B
  hq : Qt U V Q
section
variable {U V S us vs w1 w2 wt v2 vt Q : Int}
theorem KD.vpos (h : KD U V S us vs w1 w2 wt v2 vt Q) : S * B ≤ V := by
  have e : B = 4294967296 := rfl
  have h1 := h.hv
  have hS := h.hS
  have h2 := h.hvt
  have h3 := h.hv2
  have h4 : 1 * B ≤ vt * B := Int.mul_le_mul_of_nonneg_right (by omega) (by omega)
  have h5 : B * S ≤ (vt * B + v2) * S := Int.mul_le_mul_of_nonneg_right (by omega) (by omega)
  have h6 := h.hvs
  rw [Int.mul_comm S B]; omega
theorem KD.v0 (h : KD U V S us vs w1 w2 wt v2 vt Q) : 0 < V := by
  have h1 := h.vpos
  have h2 : 0 < S * B := Int.mul_pos h.hS (by unfold B; omega)
  omega
theorem KD.u0 (h : KD U V S us vs w1 w2 wt v2 vt Q) : 0 ≤ U := by
  have h1 := h.hwt.1
  have h2 := h.hw1.1
  have h3 := h.hw2.1
  have h4 : 0 ≤ wt * B := Int.mul_nonneg h1 (by unfold B; omega)
  have h5 : 0 ≤ (wt * B + w1) * B := Int.mul_nonneg (by omega) (by unfold B; omega)
  have h6 : 0 ≤ ((wt * B + w1) * B + w2) * S := Int.mul_nonneg (by omega) (by have := h.hS; omega)
  have := h.hus.1
  rw [h.hu]; omega
theorem KD.q0 (h : KD U V S us vs w1 w2 wt v2 vt Q) : 0 ≤ Q := h.hq.nn h.v0 h.u0
theorem KD.qB (h : KD U V S us vs w1 w2 wt v2 vt Q) : Q < B := h.hq.lt_of h.v0 (by rw [Int.mul_comm]; exact h.hlt)
theorem KD.top (h : KD U V S us vs w1 w2 wt v2 vt Q) : wt * B + w1 < (vt + 1) * B := by
  have e : B = 4294967296 := rfl
  refine Classical.byContradiction fun hc => ?_
  have hS := h.hS
  have h1 : ((vt + 1) * B) * B * S ≤ (wt * B + w1) * B * S := Int.mul_le_mul_of_nonneg_right (Int.mul_le_mul_of_nonneg_right (by omega) (by omega)) (by omega)
  have h2 : 0 ≤ w2 * S := Int.mul_nonneg h.hw2.1 (by omega)
  have h3 : U = (wt * B + w1) * B * S + w2 * S + us := by rw [h.hu]; grind
  have h4 : (v2 + 1) * S ≤ B * S := Int.mul_le_mul_of_nonneg_right (by have := h.hv2; omega) (by omega)
  have h5 : V * B = vt * B * S * B + (v2 * S + vs) * B := by rw [h.hv]; grind
  have h6 : (v2 * S + vs) * B ≤ (B * S) * B := Int.mul_le_mul_of_nonneg_right (by have := h.hvs; rw [Int.add_mul] at h4; omega) (by omega)
  have h7 : ((vt + 1) * B) * B * S = vt * B * S * B + (B * S) * B := by grind
  have := h.hlt
  have := h.hus.1
  omega
theorem KD.ge (h : KD U V S us vs w1 w2 wt v2 vt Q) : Q * vt ≤ wt * B + w1 := by
  have hS := h.hS
  have hSB : 0 < S * B := Int.mul_pos hS (by unfold B; omega)
  refine guess_ge (P := S * B) (ur := w2 * S + us) (vr := v2 * S + vs) h.hq hSB (by rw [h.hu]; grind) ?_ (by rw [h.hv]; grind) ?_ (by have := h.hvt; omega) h.q0
  · have h1 : (w2 + 1) * S ≤ B * S := Int.mul_le_mul_of_nonneg_right (by have := h.hw2; omega) (by omega)
    rw [Int.add_mul] at h1
    have := h.hus
    rw [Int.mul_comm S B]; omega
  · have := Int.mul_nonneg h.hv2.1 (show 0 ≤ S by omega)
    have := h.hvs
    omega
theorem KD.gt (h : KD U V S us vs w1 w2 wt v2 vt Q) {g r : Int} (hg : g * vt + r = wt * B + w1) (g0 : 0 ≤ g) (hc : r * B + w2 < g * v2) : Q < g := by
  refine guess_gt (S := S) (us := us) (vs := vs) h.hq h.hS h.hu h.hus.2 h.hv h.hvs.1 ?_ g0 h.v0
  have e1 : g * (vt * B + v2) = (g * vt + r) * B - r * B + g * v2 := by grind
  rw [e1, hg]; omega
theorem KD.le (h : KD U V S us vs w1 w2 wt v2 vt Q) {g r : Int} (hg : g * vt + r = wt * B + w1) (g0 : 0 ≤ g) (gB : g < B) (hc : g * v2 ≤ r * B + w2) : g ≤ Q + 1 := by
  refine guess_le (S := S) (us := us) (vs := vs) h.hq h.hS h.hu h.hus.1 h.hv h.hvs.2 h.hvs.1 ?_ g0 ?_ h.v0
  · have e1 : g * (vt * B + v2) = (g * vt + r) * B - r * B + g * v2 := by grind
    rw [e1, hg]; omega
  · have h1 : g * S ≤ B * S := Int.mul_le_mul_of_nonneg_right (by omega) (by have := h.hS; omega)
    have := h.vpos
    rw [Int.mul_comm S B] at this; omega
end
/-- a loop that comes to an end -/
theorem ret_loopG {τ ρ : Type} {step : τ → Option (τ ⊕ ρ)} {Post : ρ → Prop} (I : τ → Prop) (μ : τ → Nat) {s : τ} (h0 : I s) (hμ : μ s < 1099511627776)
    (h : ∀ t, I t → Ret (step t) (VQ (fun t' => I t' ∧ μ t' < μ t) Post)) : Ret (loop step s) Post := by
  have key : ∀ (fuel : Nat) (t : τ), μ t < fuel → I t → Ret (loopN step fuel t) Post := by
    intro fuel
    induction fuel with
    | zero => intro t h1; omega
    | succ n ih =>
      intro t h1 h2
      obtain ⟨x, hx, h3⟩ := h t h2
      cases x with
      | inr r => exact ⟨r, by simp [loopN, hx], h3⟩
      | inl t' =>
        obtain ⟨h4, h5⟩ := h3
        obtain ⟨y, hy, hp⟩ := ih t' (by omega) h4
        exact ⟨y, by simp [loopN, hx, hy], hp⟩
  exact key FUEL s hμ h0
theorem get_of {l : List Int} {k : Nat} (h : k < l.length) : ∃ x, l[k]? = some x := ⟨l[k], List.getElem?_eq_getElem h⟩
theorem ret_at {l : List Int} {k : Nat} {x : Int} (hx : l[k]? = some x) {i : Int} (hi : i = (k : Int)) : getI l i = some x := by
  subst hi
  have := (List.getElem?_eq_some_iff.1 hx).1
  exact Ret.eq (by rw [ret_get]; exact ⟨by omega, by omega, fun y hy => by rw [Int.toNat_natCast] at hy; exact Option.some.inj (hy.symm.trans hx)⟩)
theorem win_at {A W Z : List Int} {k : Nat} {x : Int} (hx : W[k]? = some x) {lo hi i : Int} (hlo : lo = (A.length : Int)) (hhi : hi = (A.length : Int) + W.length) (hi' : i = (k : Int)) : getW (A ++ W ++ Z) lo hi i = some x := by
  subst hi'
  have := (List.getElem?_eq_some_iff.1 hx).1
  exact Ret.eq (by rw [ret_getW hlo hhi]; exact ⟨by omega, by omega, fun y hy => by rw [Int.toNat_natCast] at hy; exact Option.some.inj (hy.symm.trans hx)⟩)
theorem win_set {A W Z : List Int} {k : Nat} (hk : k < W.length) {z lo hi i : Int} (hlo : lo = (A.length : Int)) (hhi : hi = (A.length : Int) + W.length) (hi' : i = (k : Int)) : setW (A ++ W ++ Z) lo hi i z = some (A ++ W.set k z ++ Z) := by
  subst hi'
  exact Ret.eq (by rw [ret_setW hlo hhi, Int.toNat_natCast]; exact ⟨by omega, by omega, rfl⟩)
theorem set_take {l : List Int} {k : Nat} {y : Int} (hk : k < l.length) : lv ((l.set k y).take (k + 1)) = lv (l.take k) + pw k * y := by
  have hs : (l.set k y)[k]? = some y := by rw [List.getElem?_set_self]; exact hk
  rw [take_succ hs, List.take_set, List.set_eq_of_length_le (by rw [List.length_take]; omega)]
theorem drop_get {l m : List Int} {k : Nat} (h : l.drop k = m.drop k) : l[k]? = m[k]? := by
  have e1 : (l.drop k)[0]? = l[k]? := by rw [List.getElem?_drop]; rfl
  have e2 : (m.drop k)[0]? = m[k]? := by rw [List.getElem?_drop]; rfl
  rw [← e1, ← e2, h]
theorem set_drop {l m : List Int} {k : Nat} {y : Int} (h : l.drop k = m.drop k) : (l.set k y).drop (k + 1) = m.drop (k + 1) := by
  rw [List.drop_set_of_lt (by omega), ← List.drop_drop, h, List.drop_drop]
section
variable {A W Z v : List Int} {lo hi : Int}
/-- the guess -/
theorem guess_ok {U V S us vs w1 w2 wt v2 vt Q : Int} (hK : KD U V S us vs w1 w2 wt v2 vt Q) {m : Nat} (hv : v.length = m + 2) (hm : m ≤ 10000) (g2 : v[m]? = some v2) (gt : v[m + 1]? = some vt) (k2 : W[m]? = some w2) (hlo : lo = (A.length : Int)) (hhi : hi = (A.length : Int) + W.length) :
    Ret (loop (integer_digit_l17 v (A ++ W ++ Z) lo hi) ((wt * B + w1) / vt, (wt * B + w1) % vt)) (fun g => Q ≤ g ∧ g ≤ Q + 1 ∧ g < B) := by
  have e : B = 4294967296 := rfl
  have hvt := hK.hvt
  have hwt := hK.hwt
  have hw1 := hK.hw1
  have hw2 := hK.hw2
  have hv2 := hK.hv2
  have htop := hK.top
  have hQ0 := hK.q0
  have hQB := hK.qB
  have hge := hK.ge
  have t0 : 0 ≤ wt * B + w1 := by have := Int.mul_nonneg hwt.1 (show 0 ≤ B by omega); omega
  have hd := Int.mul_ediv_add_emod (wt * B + w1) vt
  have r0 := Int.emod_nonneg (wt * B + w1) (show vt ≠ 0 by omega)
  have r1 := Int.emod_lt_of_pos (wt * B + w1) (show 0 < vt by omega)
  have hq0 : Q ≤ (wt * B + w1) / vt := (Int.le_ediv_iff_mul_le (by omega)).2 hge
  have hq1 : (wt * B + w1) / vt ≤ wt * B + w1 := Int.ediv_le_self _ t0
  have hq2 : (wt * B + w1) / vt < 2 * B := by
    refine Int.ediv_lt_of_lt_mul (by omega) ?_
    have : (vt + 1) * B ≤ (2 * vt) * B := Int.mul_le_mul_of_nonneg_right (by omega) (by omega)
    have e9 : 2 * B * vt = 2 * vt * B := by grind
    omega
  refine ret_loopG (fun (s : Int × Int) => s.1 * vt + s.2 = wt * B + w1 ∧ (0 ≤ s.2 ∧ s.2 < B) ∧ Q ≤ s.1 ∧ s.1 < 2 * B) (fun s => s.1.toNat) ⟨by show (wt * B + w1) / vt * vt + (wt * B + w1) % vt = _; rw [Int.mul_comm]; exact hd, ⟨r0, by show (wt * B + w1) % vt < B; omega⟩, hq0, hq2⟩ (by show ((wt * B + w1) / vt).toNat < _; omega) ?_
  rintro ⟨g, r⟩ ⟨hg, hr, hQg, hg2⟩
  simp only at hg hr hQg hg2
  unfold integer_digit_l17
  simp only
  have hn2 : ws .i64 (v.length : Int) 2 = (m : Int) := by rw [hv, ws_i (by omega) (by omega)]; omega
  have hn1 : ws .i64 (v.length : Int) 1 = ((m + 1 : Nat) : Int) := by rw [hv, ws_i (by omega) (by omega)]; omega
  rw [hn2, hn1, ret_at g2 rfl, win_at k2 hlo hhi rfl, ret_at gt rfl]
  have hcv : wc .u64 vt = vt := wc_u64_in ⟨by omega, by omega⟩
  -- what is done when the guess is too great
  have down : Q < g → Ret ((if (4294967295 : Int) < (wa .u64 r (wc .u64 vt)) then some (.inr (ws .u64 g 1)) else some (.inl (ws .u64 g 1, wa .u64 r (wc .u64 vt))) : Option ((Int × Int) ⊕ Int))) (VQ (fun t' : Int × Int => (t'.1 * vt + t'.2 = wt * B + w1 ∧ (0 ≤ t'.2 ∧ t'.2 < B) ∧ Q ≤ t'.1 ∧ t'.1 < 2 * B) ∧ t'.1.toNat < g.toNat) (fun g => Q ≤ g ∧ g ≤ Q + 1 ∧ g < B)) := by
    intro hlt
    have hw : ws .u64 g 1 = g - 1 := by rw [ws_u64]; omega
    have e1 : (g - 1) * vt + (r + vt) = wt * B + w1 := by rw [← hg]; grind
    rw [hcv, wa_u64 ⟨by omega, by omega⟩, hw, ret_if]
    refine ⟨fun hb => ⟨_, rfl, by omega, ?_, ?_⟩, fun hb => ⟨_, rfl, ⟨e1, ⟨by omega, by omega⟩, by omega, by omega⟩, by omega⟩⟩
    · have hgB : g - 1 < B := by
        refine Classical.byContradiction fun hc => ?_
        have h1 : B * vt ≤ (g - 1) * vt := Int.mul_le_mul_of_nonneg_right (by omega) (by omega)
        have h2 : (vt + 1) * B = B * vt + B := by grind
        omega
      refine hK.le e1 (by omega) hgB ?_
      have h1 : (g - 1) * v2 ≤ 4294967295 * 4294967295 := Int.mul_le_mul (by omega) (by omega) hv2.1 (by omega)
      have h2 : 4294967296 * 4294967296 ≤ (r + vt) * B := Int.mul_le_mul (by omega) (by omega) (by omega) (by omega)
      omega
    · refine Classical.byContradiction fun hc => ?_
      have h1 : B * vt ≤ (g - 1) * vt := Int.mul_le_mul_of_nonneg_right (by omega) (by omega)
      have h2 : (vt + 1) * B = B * vt + B := by grind
      omega
  by_cases hgl : (4294967295 : Int) < g
  · rw [if_pos hgl, obs, if_pos rfl, obs]
    exact down (by omega)
  · rw [if_neg hgl, obs, obs, obs]
    have hx1 : wor .u64 (wslc .u64 r 32) (wc .u64 w2) = r * B + w2 := by
      rw [wslc32 hr, wc_u64_in (x := w2) ⟨hw2.1, by omega⟩, wor_hi hr hw2]
    have hx2 : wm .u64 g (wc .u64 v2) = g * v2 := by
      rw [wc_u64_in (x := v2) ⟨hv2.1, by omega⟩]
      have h1 := Int.mul_nonneg (show 0 ≤ g by omega) hv2.1
      have h2 : g * v2 ≤ 4294967295 * 4294967295 := Int.mul_le_mul (by omega) (by omega) hv2.1 (by omega)
      exact wm_u64 ⟨h1, by omega⟩
    rw [hx1, hx2, ret_if]
    refine ⟨fun hc => ?_, fun hc => ?_⟩
    · rw [obs]
      exact down (hK.gt hg (by omega) (by simpa using hc))
    · have hc : ¬ r * B + w2 < g * v2 := by simpa using hc
      exact ⟨_, rfl, hQg, hK.le hg (by omega) (by omega) (by omega), by omega⟩
/-- a multiple of the divisor is subtracted -/
theorem msub_ok {g : Int} (hg : 0 ≤ g ∧ g < B) (hW : LW W) (hv : LW v) (hl : W.length = v.length + 1) (hm : v.length ≤ 10000) (hlo : lo = (A.length : Int)) (hhi : hi = (A.length : Int) + W.length) :
    Ret (loop (integer_digit_l18 v lo hi g) (A ++ W ++ Z, 0, 0, 0)) (fun r => ∃ X c b, r = (A ++ X ++ Z, c, b) ∧ LW X ∧ X.length = W.length ∧ X.drop v.length = W.drop v.length ∧ (0 ≤ c ∧ c < B) ∧ (b = 0 ∨ b = 1) ∧ lv (X.take v.length) = lv (W.take v.length) - g * lv v + pw v.length * (c + b)) := by
  have e : B = 4294967296 := rfl
  refine (ret_loop (Post := fun r : List Int × Int × Int => ∃ X c b, r = (A ++ X ++ Z, c, b) ∧ LW X ∧ X.length = W.length ∧ X.drop v.length = W.drop v.length ∧ (0 ≤ c ∧ c < B) ∧ (b = 0 ∨ b = 1) ∧ lv (X.take v.length) = lv (W.take v.length) - g * lv v + pw v.length * (c + b)) v.length (fun k (s : List Int × Int × Int × Int) => ∃ X c b, s = (A ++ X ++ Z, c, b, (k : Int)) ∧ LW X ∧ X.length = W.length ∧ X.drop k = W.drop k ∧ (0 ≤ c ∧ c < B) ∧ (b = 0 ∨ b = 1) ∧ lv (X.take k) = lv (W.take k) - g * lv (v.take k) + pw k * (c + b)) ⟨W, 0, 0, rfl, hW, rfl, rfl, ⟨by omega, by omega⟩, .inl rfl, by simp [lv]⟩ ?_ (by omega))
  rintro k _ hk ⟨X, c, b, rfl, x1, x2, x3, x4, x5, x6⟩
  unfold integer_digit_l18
  simp only
  rw [ret_if]
  refine ⟨fun hlt => ?_, fun hge => ⟨_, rfl, X, c, b, rfl, x1, x2, by have ek : k = v.length := (by omega); subst ek; exact x3, x4, x5, by have ek : k = v.length := (by omega); subst ek; rw [List.take_length] at x6; exact x6⟩⟩
  obtain ⟨y, hy⟩ := get_of (l := v) (k := k) (by omega)
  obtain ⟨z, hz⟩ := get_of (l := W) (k := k) (by omega)
  have hzX : X[k]? = some z := (drop_get x3).trans hz
  have hyB := LW.get hv hy
  have hzB := LW.get hW hz
  have hhi' : hi = (A.length : Int) + X.length := by rw [x2]; exact hhi
  have p0 := Int.mul_nonneg hg.1 hyB.1
  have p1 : g * y ≤ 4294967295 * 4294967295 := Int.mul_le_mul (by omega) (by omega) hyB.1 (by omega)
  have ep : wa .u64 (wm .u64 g (wc .u64 y)) c = g * y + c := by
    rw [wc_u64_in (x := y) ⟨hyB.1, by omega⟩, wm_u64 ⟨p0, by omega⟩, wa_u64 ⟨by omega, by omega⟩]
  have hm1 := Int.emod_nonneg (g * y + c) (show B ≠ 0 by omega)
  have hm2 := Int.emod_lt_of_pos (g * y + c) (show 0 < B by omega)
  have hdm := Int.mul_ediv_add_emod (g * y + c) B
  have d0 : 0 ≤ (g * y + c) / B := Int.ediv_nonneg (by omega) (by omega)
  have d1 : (g * y + c) / B < B := Int.ediv_lt_of_lt_mul (by omega) (by rw [e]; omega)
  obtain ⟨k1, k2, k3, k4⟩ := low_borrow (v := z - (g * y + c) % B - b) (by omega) (by omega)
  have et : ws .u64 (ws .u64 (wc .u64 z) (wand .u64 (g * y + c) 4294967295)) b = (z - (g * y + c) % B - b) % 18446744073709551616 := by
    rw [wc_u64_in (x := z) ⟨hzB.1, by omega⟩, wand_low ⟨by omega, by omega⟩, ws_u64, ws_u64]; omega
  rw [ret_at hy rfl, obs, win_at hzX hlo hhi' rfl, obs, ep, et]
  generalize ht : (z - (g * y + c) % B - b) % 18446744073709551616 = t at *
  have hmm := Int.emod_nonneg t (show B ≠ 0 by omega)
  have hmm2 := Int.emod_lt_of_pos t (show 0 < B by omega)
  have hd0 : 0 ≤ t / B := Int.ediv_nonneg k3 (by omega)
  have hd1 : t / B < 18446744073709551616 := Int.ediv_lt_of_lt_mul (by omega) (by omega)
  rw [wand_low ⟨k3, k4⟩, wsrc32 k3, wand_one ⟨hd0, hd1⟩, wc_u32_in ⟨hmm, hmm2⟩, wsrc32 (by omega), k2, win_set (k := k) (by omega) hlo hhi' rfl, obs]
  have hkX : k < X.length := by omega
  refine ⟨_, rfl, by omega, X.set k (t % B), (g * y + c) / B, _, by rw [wa_i (by omega) (by omega)]; rfl, lw_set x1 ⟨hmm, hmm2⟩, by rw [List.length_set, x2], set_drop x3, ⟨d0, d1⟩, by split <;> omega, ?_⟩
  rw [set_take hkX, x6, k1, take_succ hz, take_succ hy]
  simp only [pw]
  generalize (if z - (g * y + c) % B - b < 0 then (1 : Int) else 0) = β
  generalize (g * y + c) / B = q at *
  generalize (g * y + c) % B = r at *
  have : g * y = B * q + r - c := by omega
  have e5 : g * (lv (v.take k) + pw k * y) = g * lv (v.take k) + pw k * (g * y) := by grind
  rw [e5, this]
  grind
/-- the divisor is added back -/
theorem madd_ok (hW : LW W) (hv : LW v) (hl : W.length = v.length + 1) (hm : v.length ≤ 10000) (hlo : lo = (A.length : Int)) (hhi : hi = (A.length : Int) + W.length) :
    Ret (loop (integer_digit_l19 v lo hi) (A ++ W ++ Z, 0, 0)) (fun r => ∃ X c, r = (A ++ X ++ Z, c) ∧ LW X ∧ X.length = W.length ∧ X.drop v.length = W.drop v.length ∧ (c = 0 ∨ c = 1) ∧ lv (X.take v.length) + pw v.length * c = lv (W.take v.length) + lv v) := by
  have e : B = 4294967296 := rfl
  refine (ret_loop (Post := fun r : List Int × Int => ∃ X c, r = (A ++ X ++ Z, c) ∧ LW X ∧ X.length = W.length ∧ X.drop v.length = W.drop v.length ∧ (c = 0 ∨ c = 1) ∧ lv (X.take v.length) + pw v.length * c = lv (W.take v.length) + lv v) v.length (fun k (s : List Int × Int × Int) => ∃ X c, s = (A ++ X ++ Z, c, (k : Int)) ∧ LW X ∧ X.length = W.length ∧ X.drop k = W.drop k ∧ (c = 0 ∨ c = 1) ∧ lv (X.take k) + pw k * c = lv (W.take k) + lv (v.take k)) ⟨W, 0, rfl, hW, rfl, rfl, .inl rfl, by simp [lv]⟩ ?_ (by omega))
  rintro k _ hk ⟨X, c, rfl, x1, x2, x3, x4, x6⟩
  unfold integer_digit_l19
  simp only
  rw [ret_if]
  refine ⟨fun hlt => ?_, fun hge => ⟨_, rfl, X, c, rfl, x1, x2, by have ek : k = v.length := (by omega); subst ek; exact x3, x4, by have ek : k = v.length := (by omega); subst ek; rw [List.take_length] at x6; exact x6⟩⟩
  obtain ⟨y, hy⟩ := get_of (l := v) (k := k) (by omega)
  obtain ⟨z, hz⟩ := get_of (l := W) (k := k) (by omega)
  have hzX : X[k]? = some z := (drop_get x3).trans hz
  have hyB := LW.get hv hy
  have hzB := LW.get hW hz
  have hhi' : hi = (A.length : Int) + X.length := by rw [x2]; exact hhi
  have ep : wa .u64 (wa .u64 (wc .u64 z) (wc .u64 y)) c = z + y + c := by
    rw [wc_u64_in (x := y) ⟨hyB.1, by omega⟩, wc_u64_in (x := z) ⟨hzB.1, by omega⟩, wa_u64 (x := z) (y := y) ⟨by omega, by omega⟩, wa_u64 ⟨by omega, by omega⟩]
  have hmm := Int.emod_nonneg (z + y + c) (show B ≠ 0 by omega)
  have hmm2 := Int.emod_lt_of_pos (z + y + c) (show 0 < B by omega)
  have hdm := Int.mul_ediv_add_emod (z + y + c) B
  have d0 : 0 ≤ (z + y + c) / B := Int.ediv_nonneg (by omega) (by omega)
  have d1 : (z + y + c) / B < 2 := Int.ediv_lt_of_lt_mul (by omega) (by omega)
  rw [ret_at hy rfl, obs, win_at hzX hlo hhi' rfl, obs, ep, wand_low ⟨by omega, by omega⟩, wsrc32 (by omega), wc_u32_in ⟨hmm, hmm2⟩, win_set (k := k) (by omega) hlo hhi' rfl, obs]
  have hkX : k < X.length := by omega
  refine ⟨_, rfl, by omega, X.set k ((z + y + c) % B), (z + y + c) / B, by rw [wa_i (by omega) (by omega)]; rfl, lw_set x1 ⟨hmm, hmm2⟩, by rw [List.length_set, x2], set_drop x3, by omega, ?_⟩
  rw [set_take hkX, take_succ hz, take_succ hy]
  simp only [pw]
  generalize (z + y + c) / B = q at *
  generalize (z + y + c) % B = r at *
  have e3 : pw k * (B * q + r) = pw k * (z + y + c) := by rw [hdm]
  have e4 : B * pw k * q = pw k * (B * q) := by grind
  rw [Int.mul_add] at e3
  have e5 : pw k * (z + y + c) = pw k * z + pw k * y + pw k * c := by grind
  omega
/-- one digit -/
theorem digit_ok (hW : LW W) (hv : LW v) {m : Nat} (hvl : v.length = m + 2) (hl : W.length = m + 3) (hm : m ≤ 9000) (hA : A.length ≤ 10000) (htop : ∀ x, v[m + 1]? = some x → 2147483648 ≤ x) (hlt : lv W < lv v * B) (hlo : lo = (A.length : Int)) (hhi : hi = (A.length : Int) + W.length) :
    ∃ X, integer_digit (A ++ W ++ Z) lo hi v = some (A ++ X ++ Z, lv W / lv v) ∧ LW X ∧ X.length = W.length ∧ lv X = lv W % lv v := by
  have e : B = 4294967296 := rfl
  obtain ⟨v2, g2⟩ := get_of (l := v) (k := m) (by omega)
  obtain ⟨vt, gt⟩ := get_of (l := v) (k := m + 1) (by omega)
  obtain ⟨w2, k2⟩ := get_of (l := W) (k := m) (by omega)
  obtain ⟨w1, k1⟩ := get_of (l := W) (k := m + 1) (by omega)
  obtain ⟨wt, kt⟩ := get_of (l := W) (k := m + 2) (by omega)
  have b2 := LW.get hv g2
  have bt := LW.get hv gt
  have c2 := LW.get hW k2
  have c1 := LW.get hW k1
  have ct := LW.get hW kt
  have hvt := htop vt gt
  have hV : lv v = (vt * B + v2) * pw m + lv (v.take m) := by
    rw [take_drop v (show m ≤ v.length by omega), lv_drop g2, lv_drop gt, List.drop_of_length_le (by omega)]
    simp only [lv]; grind
  have hU : lv W = ((wt * B + w1) * B + w2) * pw m + lv (W.take m) := by
    rw [take_drop W (show m ≤ W.length by omega), lv_drop k2, lv_drop k1, lv_drop kt, List.drop_of_length_le (by omega)]
    simp only [lv]; grind
  have tv := take_lt hv (i := m) (by omega)
  have tw := take_lt hW (i := m) (by omega)
  have hVpos : 0 < lv v := by
    have h1 : 0 < (vt * B + v2) * pw m := Int.mul_pos (by have := Int.mul_pos (show 0 < vt by omega) (show 0 < B by omega); omega) (pw_pos m)
    omega
  have hK : KD (lv W) (lv v) (pw m) (lv (W.take m)) (lv (v.take m)) w1 w2 wt v2 vt (lv W / lv v) := ⟨pw_pos m, hV, tv, b2, ⟨hvt, bt.2⟩, hU, tw, c2, c1, ct, hlt, Qt.ediv hVpos⟩
  have hQ0 := hK.q0
  have hQB := hK.qB
  have hUdm := Int.mul_ediv_add_emod (lv W) (lv v)
  have hR0 := Int.emod_nonneg (lv W) (show lv v ≠ 0 by omega)
  have hR1 := Int.emod_lt_of_pos (lv W) hVpos
  have hvlt := lv_lt hv
  have hp2 : pw (m + 3) = B * pw (m + 2) := rfl
  have hpos2 := pw_pos (m + 2)
  have hvn : v.length = m + 2 := hvl
  refine (?_ : Ret (integer_digit (A ++ W ++ Z) lo hi v) (fun r => ∃ X, r = (A ++ X ++ Z, lv W / lv v) ∧ LW X ∧ X.length = W.length ∧ lv X = lv W % lv v)).elim fun r hr => ?_
  · unfold integer_digit
    have hn1 : ws .i64 (v.length : Int) 1 = ((m + 1 : Nat) : Int) := by rw [hvl, ws_i (by omega) (by omega)]; omega
    have hnn : (v.length : Int) = ((m + 2 : Nat) : Int) := by rw [hvl]
    rw [hn1, hnn, win_at kt hlo hhi rfl, obs, win_at k1 hlo hhi rfl, obs, ret_at gt rfl, obs]
    have et : wor .u64 (wslc .u64 (wc .u64 wt) 32) (wc .u64 w1) = wt * B + w1 := by
      rw [wc_u64_in (x := wt) ⟨ct.1, by omega⟩, wc_u64_in (x := w1) ⟨c1.1, by omega⟩, wslc32 ct, wor_hi ct c1]
    have t0 : 0 ≤ wt * B + w1 := by have := Int.mul_nonneg ct.1 (show 0 ≤ B by omega); omega
    have t1 : wt * B + w1 < 18446744073709551616 := by rw [e]; omega
    have hcv : wc .u64 vt = vt := wc_u64_in ⟨by omega, by omega⟩
    have hwq : wq .u64 (wt * B + w1) vt = some ((wt * B + w1) / vt) := by
      unfold wq
      have h0 : 0 ≤ (wt * B + w1) / vt := Int.ediv_nonneg t0 (by omega)
      have h1 : (wt * B + w1) / vt ≤ wt * B + w1 := Int.ediv_le_self _ t0
      rw [if_neg (by omega), Int.tdiv_eq_ediv_of_nonneg t0, IntWalk.u64_in _ ⟨h0, by omega⟩]
    have hwr : wr (wt * B + w1) vt = some ((wt * B + w1) % vt) := by
      unfold wr
      rw [if_neg (by omega), Int.tmod_eq_emod_of_nonneg t0]
    rw [et, hcv, hwq, obs, obs, hcv, hwr, obs, ret_bind]
    refine (guess_ok hK hvl (by omega) g2 gt k2 hlo hhi).mono ?_
    rintro g ⟨gQ, gQ1, gB⟩
    rw [ret_bind]
    refine (msub_ok (Z := Z) ⟨by omega, gB⟩ hW hv (by omega) (by omega) hlo hhi).mono ?_
    rintro _ ⟨X, c, b, rfl, x1, x2, x3, x4, x5, x6⟩
    simp only
    have hXt : X[m + 2]? = some wt := by rw [← kt]; rw [hvl] at x3; exact drop_get x3
    have hhi' : hi = (A.length : Int) + X.length := by rw [x2]; exact hhi
    rw [win_at hXt hlo hhi' rfl, obs]
    obtain ⟨q1, q2, q3, q4⟩ := low_borrow (v := wt - c - b) (by omega) (by omega)
    have et2 : ws .u64 (ws .u64 (wc .u64 wt) c) b = (wt - c - b) % 18446744073709551616 := by
      rw [wc_u64_in (x := wt) ⟨ct.1, by omega⟩, ws_u64, ws_u64]; omega
    rw [et2]
    generalize ht : (wt - c - b) % 18446744073709551616 = t at *
    have hmm := Int.emod_nonneg t (show B ≠ 0 by omega)
    have hmm2 := Int.emod_lt_of_pos t (show 0 < B by omega)
    have hd0 : 0 ≤ t / B := Int.ediv_nonneg q3 (by omega)
    have hd1 : t / B < 18446744073709551616 := Int.ediv_lt_of_lt_mul (by omega) (by omega)
    rw [wand_low ⟨q3, q4⟩, wsrc32 q3, wand_one ⟨hd0, hd1⟩, wc_u32_in ⟨hmm, hmm2⟩, q2, win_set (k := m + 2) (by omega) hlo hhi' rfl, obs]
    have hYlw : LW (X.set (m + 2) (t % B)) := lw_set x1 ⟨hmm, hmm2⟩
    have hYlen : (X.set (m + 2) (t % B)).length = W.length := by rw [List.length_set, x2]
    have hYlt := lv_lt hYlw
    have hYnn := lv_nn hYlw
    -- the value that is there now
    have hWall : lv W = lv (W.take (m + 2)) + pw (m + 2) * wt := by rw [← take_succ kt, take_all (by omega)]
    have hY : lv (X.set (m + 2) (t % B)) = lv W - g * lv v + pw (m + 3) * (if wt - c - b < 0 then 1 else 0) := by
      have h1 : lv (X.set (m + 2) (t % B)) = lv ((X.set (m + 2) (t % B)).take (m + 2 + 1)) := by rw [take_all (by rw [hYlen]; omega)]
      rw [h1, set_take (by omega), q1]
      rw [hvl] at x6
      rw [x6, hWall, hp2]
      generalize (if wt - c - b < 0 then (1 : Int) else 0) = β
      grind
    rw [hYlen, hl] at hYlt
    have hUg : lv W - g * lv v = lv W % lv v + (lv W / lv v - g) * lv v := by
      have : (lv W / lv v - g) * lv v = lv v * (lv W / lv v) - g * lv v := by grind
      omega
    rw [hvl] at hvlt
    rw [ret_if]
    refine ⟨fun hb => ?_, fun hb => ?_⟩
    · have hβ : (if wt - c - b < 0 then (1 : Int) else 0) = 0 := hb
      rw [hβ, Int.mul_zero, Int.add_zero, hUg] at hY
      have hgq : g = lv W / lv v := by
        refine Classical.byContradiction fun hc => ?_
        have : lv W / lv v - g = -1 := by omega
        rw [this] at hY; omega
      subst hgq
      rw [Int.sub_self, Int.zero_mul, Int.add_zero] at hY
      rw [wc_u32_in ⟨hQ0, hQB⟩]
      exact ⟨_, rfl, _, rfl, hYlw, hYlen, hY⟩
    · have hβ : (if wt - c - b < 0 then (1 : Int) else 0) = 1 := by revert hb; split <;> simp
      rw [hβ, Int.mul_one, hUg] at hY
      have hgq : g = lv W / lv v + 1 := by
        refine Classical.byContradiction fun hc => ?_
        have : lv W / lv v - g = 0 := by omega
        rw [this] at hY; omega
      have hgq2 : lv W / lv v - g = -1 := by omega
      rw [hgq2] at hY
      rw [ret_bind]
      have hhi2 : hi = (A.length : Int) + (X.set (m + 2) (t % B)).length := by rw [hYlen]; exact hhi
      refine (madd_ok (Z := Z) hYlw hv (by omega) (by omega) hlo hhi2).mono ?_
      rintro _ ⟨Y, c', rfl, y1, y2, y3, y4, y5⟩
      simp only
      have hYt : Y[m + 2]? = some (t % B) := by
        rw [hvl] at y3
        rw [drop_get y3, List.getElem?_set_self (by omega)]
      have hhi3 : hi = (A.length : Int) + Y.length := by rw [y2]; exact hhi2
      rw [win_at hYt hlo hhi3 rfl, obs, wc_u32_in (x := c') ⟨by omega, by omega⟩, wa_u32, win_set (k := m + 2) (by omega) hlo hhi3 rfl, obs]
      have hwg : wc .u32 (ws .u64 g 1) = lv W / lv v := by
        rw [ws_u64, wc_u32_in ⟨by omega, by omega⟩]; omega
      rw [hwg]
      have hz0 := Int.emod_nonneg (t % B + c') (show B ≠ 0 by omega)
      have hz1 := Int.emod_lt_of_pos (t % B + c') (show 0 < B by omega)
      have hzd := Int.mul_ediv_add_emod (t % B + c') B
      have hFlw : LW (Y.set (m + 2) ((t % B + c') % B)) := lw_set y1 ⟨hz0, hz1⟩
      have hFlen : (Y.set (m + 2) ((t % B + c') % B)).length = W.length := by rw [List.length_set, y2, hYlen]
      refine ⟨_, rfl, _, rfl, hFlw, hFlen, ?_⟩
      have hFlt := lv_lt hFlw
      have hFnn := lv_nn hFlw
      rw [hFlen, hl] at hFlt
      have hF : lv (Y.set (m + 2) ((t % B + c') % B)) = lv W % lv v + pw (m + 3) * (1 - (t % B + c') / B) := by
        have h1 : lv (Y.set (m + 2) ((t % B + c') % B)) = lv ((Y.set (m + 2) ((t % B + c') % B)).take (m + 2 + 1)) := by rw [take_all (by rw [hFlen]; omega)]
        have h2 : lv (X.set (m + 2) (t % B)) = lv ((X.set (m + 2) (t % B)).take (m + 2)) + pw (m + 2) * (t % B) := by
          have h3 : (X.set (m + 2) (t % B))[m + 2]? = some (t % B) := by rw [List.getElem?_set_self (by omega)]
          rw [← take_succ h3, take_all (by rw [hYlen]; omega)]
        rw [hvl] at y5
        rw [h1, set_take (by omega), hp2]
        generalize (t % B + c') / B = k at *
        generalize (t % B + c') % B = r at *
        have e3 : pw (m + 2) * (B * k + r) = pw (m + 2) * (t % B + c') := by rw [hzd]
        rw [Int.mul_add, Int.mul_add] at e3
        have e4 : B * pw (m + 2) * (1 - k) = B * pw (m + 2) - pw (m + 2) * (B * k) := by grind
        omega
      have hk : (t % B + c') / B = 1 := by
        have k0 : 0 ≤ (t % B + c') / B := Int.ediv_nonneg (by omega) (by omega)
        have k1 : (t % B + c') / B < 2 := Int.ediv_lt_of_lt_mul (by omega) (by omega)
        refine Classical.byContradiction fun hc => ?_
        have : (t % B + c') / B = 0 := by omega
        rw [this] at hF
        omega
      rw [hk] at hF
      rw [hF]; omega
  · obtain ⟨h1, X, rfl, h2⟩ := hr
    exact ⟨X, h1, h2⟩
end
end Km
/- The program's division of numbers of limbs. -/
namespace Km
open Sx Go M Vc Lm
/-- the normalized divisor -/
theorem norm_top {b : List Int} (hb : LW b) {m : Nat} (hl : b.length = m + 2) {bt : Int} (gt : b[m + 1]? = some bt) {s : Nat} (hs : s < 32) (h1 : bt * 2 ^ s < B) (h2 : B ≤ 2 * (bt * 2 ^ s)) :
    lv b * 2 ^ s < pw (m + 2) ∧ 2147483648 * pw (m + 1) ≤ lv b * 2 ^ s := by
  have e : B = 4294967296 := rfl
  obtain ⟨p1, p2, p3, p4⟩ := two_pow hs
  have hbt := LW.get hb gt
  have hV : lv b = lv (b.take (m + 1)) + pw (m + 1) * bt := by rw [← take_succ gt, take_all (by omega)]
  have ht := take_lt hb (i := m + 1) (by omega)
  have hp := pw_pos (m + 1)
  have hbt2 : bt < 2 ^ (32 - s) := by
    refine Classical.byContradiction fun hc => ?_
    have : 2 ^ (32 - s) * 2 ^ s ≤ bt * 2 ^ s := Int.mul_le_mul_of_nonneg_right (by omega) (by omega)
    rw [Int.mul_comm] at this; omega
  have h3 : (bt + 1) * 2 ^ s ≤ B := by
    have : (bt + 1) * 2 ^ s ≤ 2 ^ (32 - s) * 2 ^ s := Int.mul_le_mul_of_nonneg_right (by omega) (by omega)
    rw [Int.mul_comm (2 ^ (32 - s))] at this; omega
  constructor
  · have h4 : lv b * 2 ^ s < (pw (m + 1) * (bt + 1)) * 2 ^ s := Int.mul_lt_mul_of_pos_right (by rw [Int.mul_add]; omega) p1
    have h5 : pw (m + 1) * ((bt + 1) * 2 ^ s) ≤ pw (m + 1) * B := Int.mul_le_mul_of_nonneg_left h3 (by omega)
    have h6 : pw (m + 2) = B * pw (m + 1) := rfl
    rw [Int.mul_assoc] at h4
    rw [h6, Int.mul_comm B]; omega
  · have h4 : pw (m + 1) * bt * 2 ^ s ≤ lv b * 2 ^ s := Int.mul_le_mul_of_nonneg_right (by omega) (by omega)
    have h5 : pw (m + 1) * 2147483648 ≤ pw (m + 1) * (bt * 2 ^ s) := Int.mul_le_mul_of_nonneg_left (by omega) (by omega)
    rw [Int.mul_assoc] at h4
    rw [Int.mul_comm 2147483648]; omega
theorem top_ge {v : List Int} (hv : LW v) {m : Nat} (hl : v.length = m + 2) (h : 2147483648 * pw (m + 1) ≤ lv v) : ∀ x, v[m + 1]? = some x → 2147483648 ≤ x := by
  intro x hx
  refine Classical.byContradiction fun hc => ?_
  have hV : lv v = lv (v.take (m + 1)) + pw (m + 1) * x := by rw [← take_succ hx, take_all (by omega)]
  have ht := take_lt hv (i := m + 1) (by omega)
  have h4 : pw (m + 1) * (x + 1) ≤ pw (m + 1) * 2147483648 := Int.mul_le_mul_of_nonneg_left (by omega) (by have := pw_pos (m + 1); omega)
  rw [Int.mul_add, Int.mul_comm (pw (m + 1)) 2147483648] at h4
  omega
theorem tm_eq {v : List Int} (hv : LW v) (tv : Tm v) {m : Nat} (h1 : lv v < pw (m + 2)) (h2 : pw (m + 1) ≤ lv v) : v.length = m + 2 := by
  have h3 := len_le hv tv h1
  refine Classical.byContradiction fun hc => ?_
  have h4 := lt_pw hv (m := m + 1) (by omega)
  omega
/-- the digits, from the highest -/
theorem divL_ok {u0 v : List Int} {K m : Nat} (hu : LW u0) (hv : LW v) (hvl : v.length = m + 2) (hul : u0.length = K + m + 2) (hK : K + m ≤ 5000) (htop : ∀ x, v[m + 1]? = some x → 2147483648 ≤ x) (h0 : lv (u0.drop K) < lv v) :
    Ret (loop (integer_divide_l1 v) (List.replicate K 0, u0, (K : Int) - 1)) (fun r => LW r.1 ∧ r.1.length = K ∧ LW r.2 ∧ r.2.length = u0.length ∧ lv u0 = lv r.1 * lv v + lv r.2 ∧ lv r.2 < lv v) := by
  have e : B = 4294967296 := rfl
  refine (ret_loop (Post := fun r : List Int × List Int => LW r.1 ∧ r.1.length = K ∧ LW r.2 ∧ r.2.length = u0.length ∧ lv u0 = lv r.1 * lv v + lv r.2 ∧ lv r.2 < lv v) K (fun k (s : List Int × List Int × Int) => s.2.2 = (K : Int) - 1 - k ∧ k ≤ K ∧ LW s.1 ∧ s.1.length = K ∧ LW s.2.1 ∧ s.2.1.length = u0.length ∧ s.2.1.take (K - k) = u0.take (K - k) ∧ lv (u0.drop (K - k)) = lv (s.1.drop (K - k)) * lv v + lv (s.2.1.drop (K - k)) ∧ lv (s.2.1.drop (K - k)) < lv v) ⟨by show (K : Int) - 1 = _; omega, by omega, lw_zeros K, List.length_replicate .., hu, rfl, rfl, by show lv (u0.drop (K - 0)) = lv ((List.replicate K (0 : Int)).drop (K - 0)) * lv v + lv (u0.drop (K - 0)); rw [Nat.sub_zero, List.drop_replicate, Nat.sub_self]; simp [lv], h0⟩ ?_ (by omega))
  rintro k ⟨q, u, _⟩ hk ⟨rfl, hkK, q1, q2, u1, u2, u3, u4, u5⟩
  simp only at q1 q2 u1 u2 u3 u4 u5
  unfold integer_divide_l1
  simp only
  rw [ret_if]
  refine ⟨fun hge => ?_, fun hlt => ⟨_, rfl, q1, q2, u1, u2, ?_, ?_⟩⟩
  · obtain ⟨J, hJ⟩ : ∃ J : Nat, K = J + (k + 1) := ⟨K - (k + 1), by omega⟩
    have e1 : (K : Int) - 1 - (k : Int) = (J : Int) := by omega
    have e2 : K - k = J + 1 := by omega
    have e3 : K - (k + 1) = J := by omega
    rw [e2] at u3 u4 u5
    have hw : wa .i64 (wa .i64 (J : Int) (v.length : Int)) 1 = (J : Int) + (m + 3 : Nat) := by
      rw [hvl, wa_i (x := (J : Int)) (by omega) (by omega), wa_i (by omega) (by omega)]; omega
    obtain ⟨x, hx⟩ := get_of (l := u) (k := J) (by omega)
    have hxB := LW.get u1 hx
    have hxu0 : u0[J]? = some x := by
      have h1 : (u.take (J + 1))[J]? = u[J]? := by rw [List.getElem?_take, if_pos (by omega)]
      have h2 : (u0.take (J + 1))[J]? = u0[J]? := by rw [List.getElem?_take, if_pos (by omega)]
      rw [← h2, ← u3, h1]; exact hx
    have hD := lv_drop hx
    have hD0 := lv_drop hxu0
    have hvlt := lv_lt hv
    rw [hvl] at hvlt
    have hn5 := lv_nn (LW.drop u1 (J + 1))
    -- the window
    have hsplit : u = u.take J ++ (u.drop J).take (m + 3) ++ u.drop (J + (m + 3)) := by
      rw [List.append_assoc]
      have h1 : (u.drop J).take (m + 3) ++ u.drop (J + (m + 3)) = u.drop J := by rw [← List.drop_drop, List.take_append_drop]
      rw [h1, List.take_append_drop]
    have hAl : (u.take J).length = J := by rw [List.length_take]; omega
    have hWl : ((u.drop J).take (m + 3)).length = m + 3 := by rw [List.length_take, List.length_drop]; omega
    have hWlw : LW ((u.drop J).take (m + 3)) := LW.take (LW.drop u1 J) _
    have hZlw : LW (u.drop (J + (m + 3))) := LW.drop u1 _
    have hDW : lv (u.drop J) = lv ((u.drop J).take (m + 3)) + pw (m + 3) * lv (u.drop (J + (m + 3))) := by
      rw [take_drop (u.drop J) (k := m + 3) (by rw [List.length_drop]; omega), List.drop_drop]
    have hDlt : lv (u.drop J) < lv v * B := by
      have : B * (lv (u.drop (J + 1)) + 1) ≤ B * lv v := Int.mul_le_mul_of_nonneg_left (by omega) (by omega)
      rw [Int.mul_add, Int.mul_one] at this
      rw [Int.mul_comm (lv v)]; omega
    have hWnn := lv_nn hWlw
    have hZnn := lv_nn hZlw
    have hp3 : pw (m + 3) = B * pw (m + 2) := rfl
    have hVB : lv v * B ≤ pw (m + 3) := by
      rw [hp3, Int.mul_comm B]; exact Int.mul_le_mul_of_nonneg_right (by omega) (by omega)
    have hZ0 : lv (u.drop (J + (m + 3))) = 0 := by
      refine Classical.byContradiction fun hc => ?_
      have : pw (m + 3) * 1 ≤ pw (m + 3) * lv (u.drop (J + (m + 3))) := Int.mul_le_mul_of_nonneg_left (by omega) (by have := pw_pos (m + 3); omega)
      omega
    rw [hZ0, Int.mul_zero, Int.add_zero] at hDW
    obtain ⟨X, hX, x1, x2, x3⟩ := digit_ok (A := u.take J) (W := (u.drop J).take (m + 3)) (Z := u.drop (J + (m + 3))) (lo := (J : Int)) (hi := (J : Int) + (m + 3 : Nat)) hWlw hv hvl hWl (by omega) (by omega) htop (by rw [← hDW]; exact hDlt) (by rw [hAl]) (by rw [hAl, hWl])
    rw [← hsplit, ← hDW] at hX
    rw [← hDW] at x3
    have hVpos : 0 < lv v := by omega
    have hd0 : 0 ≤ lv (u.drop J) / lv v := Int.ediv_nonneg (by omega) (by omega)
    have hd1 : lv (u.drop J) / lv v < B := Int.ediv_lt_of_lt_mul hVpos (by rw [Int.mul_comm]; exact hDlt)
    have hdm := Int.mul_ediv_add_emod (lv (u.drop J)) (lv v)
    have hr0 := Int.emod_nonneg (lv (u.drop J)) (show lv v ≠ 0 by omega)
    have hr1 := Int.emod_lt_of_pos (lv (u.drop J)) hVpos
    rw [e1, hw, ret_bind, ret_sli]
    refine ⟨by omega, by omega, by omega, ?_⟩
    rw [hX, obs, ret_bind, ret_set, Int.toNat_natCast]
    have hUl : (u.take J ++ X ++ u.drop (J + (m + 3))).length = u0.length := by
      rw [List.length_append, List.length_append, hAl, x2, hWl, List.length_drop]; omega
    have hUd : lv ((u.take J ++ X ++ u.drop (J + (m + 3))).drop J) = lv X := by
      rw [List.append_assoc, List.drop_left' hAl, lv_app, hZ0]; omega
    refine ⟨by omega, by omega, _, rfl, by omega, ?_, by omega, lw_set q1 ⟨hd0, hd1⟩, by show (q.set J _).length = K; rw [List.length_set, q2], LW.app.2 ⟨LW.app.2 ⟨LW.take u1 _, x1⟩, hZlw⟩, hUl, ?_, ?_, ?_⟩
    · show ws .i64 (J : Int) 1 = _; rw [ws_i (by omega) (by omega)]; omega
    · rw [e3]
      show (u.take J ++ X ++ u.drop (J + (m + 3))).take J = _
      rw [List.append_assoc, List.take_left' hAl]
      have h1 : u.take J = (u.take (J + 1)).take J := by rw [List.take_take, Nat.min_eq_left (by omega)]
      rw [h1, u3, List.take_take, Nat.min_eq_left (by omega)]
    · rw [e3]
      show lv (u0.drop J) = lv ((q.set J (lv (u.drop J) / lv v)).drop J) * lv v + lv ((u.take J ++ X ++ u.drop (J + (m + 3))).drop J)
      have hqJ : (q.set J (lv (u.drop J) / lv v))[J]? = some (lv (u.drop J) / lv v) := by rw [List.getElem?_set_self]; omega
      rw [hUd, x3, lv_drop hqJ, List.drop_set_of_lt (by omega), hD0, u4]
      generalize lv (u.drop J) / lv v = Q at *
      generalize lv (u.drop J) % lv v = R at *
      have h9 : (Q + B * lv (q.drop (J + 1))) * lv v = lv v * Q + B * (lv (q.drop (J + 1)) * lv v) := by grind
      rw [h9, Int.mul_add]
      omega
    · rw [e3]
      show lv ((u.take J ++ X ++ u.drop (J + (m + 3))).drop J) < lv v
      rw [hUd, x3]; exact hr1
  · have ek : K - k = 0 := by omega
    rw [ek] at u4
    exact u4
  · have ek : K - k = 0 := by omega
    rw [ek] at u5
    exact u5
theorem divide_ok {a b : List Int} (ha : LW a) (hb : LW b) (ta : Tm a) (tb : Tm b) (hne : b ≠ []) (hn : a.length ≤ 900) (hm : b.length ≤ 900) : ∃ q r, integer_divide a b = some (q, r) ∧ LW q ∧ Tm q ∧ LW r ∧ Tm r ∧ lv q = lv a / lv b ∧ lv r = lv a % lv b := by
  have e : B = 4294967296 := rfl
  have hbl : 0 < b.length := List.length_pos_iff.2 hne
  have hbpos : 0 < lv b := by
    have h1 := tm_lower hb tb hne
    have := pw_pos (b.length - 1)
    omega
  by_cases h1 : b.length = 1
  · obtain ⟨p, rfl⟩ : ∃ p, b = [p] := by
      match b, h1 with
      | [p], _ => exact ⟨p, rfl⟩
    have hp := LW.one.1 hb
    have lp : lv [p] = p := by simp [lv]
    rw [lp] at hbpos ⊢
    obtain ⟨q, r, h, q1, q2, r1, r2, q3, r3, _⟩ := divide1_ok ha ta (by omega) hbpos hp.2
    exact ⟨q, r, h, q1, q2, r1, r2, q3, r3⟩
  have h0 := lv_nn ha
  by_cases hlt : lv a < lv b
  · refine ⟨[], a, ?_, by intro x hx; simp at hx, tm_nil, ha, ta, by rw [Int.ediv_eq_zero_of_lt h0 hlt]; rfl, by rw [Int.emod_eq_of_lt h0 hlt]⟩
    unfold integer_divide
    rw [compare_ok ha hb ta tb (by omega) (by omega), obs, if_pos hlt, if_pos (by omega), clone_ok (by omega), obs]
  obtain ⟨m, hbm⟩ : ∃ m, b.length = m + 2 := ⟨b.length - 2, by omega⟩
  have hab : b.length ≤ a.length := by
    refine Classical.byContradiction fun hc => ?_
    have := tm_len ha hb ta tb (by omega)
    omega
  obtain ⟨bt, gt⟩ := get_of (l := b) (k := m + 1) (by omega)
  have hbt := LW.get hb gt
  have hbt0 : 0 < bt := by
    have := tb bt (by rw [List.getLast?_eq_getElem?, hbm]; exact gt)
    omega
  obtain ⟨s, hs, hs32, hs1, hs2⟩ := lead_ok hbt0 hbt.2
  obtain ⟨p1, p2, p3, p4⟩ := two_pow hs32
  obtain ⟨t1, t2⟩ := norm_top hb hbm gt hs32 hs1 hs2
  have hpm := pw_pos (m + 1)
  refine (?_ : Ret (integer_divide a b) (fun r => LW r.1 ∧ Tm r.1 ∧ LW r.2 ∧ Tm r.2 ∧ lv r.1 = lv a / lv b ∧ lv r.2 = lv a % lv b)).elim fun r hr => ⟨r.1, r.2, hr.1, hr.2⟩
  unfold integer_divide
  have hcmp : ¬ (if lv a < lv b then (-1 : Int) else if lv b < lv a then 1 else 0) < 0 := by rw [if_neg hlt]; split <;> omega
  have hn1 : ws .i64 (b.length : Int) 1 = ((m + 1 : Nat) : Int) := by rw [hbm, ws_i (by omega) (by omega)]; omega
  rw [compare_ok ha hb ta tb (by omega) (by omega), obs, if_neg hcmp, if_neg (by omega), hn1, ret_at gt rfl, obs, hs, obs, ret_bind]
  refine (up_ok hb (by omega) hne hs32).mono ?_
  rintro v ⟨v1, v2, v3⟩
  have hvl := tm_eq v1 v2 (m := m) (by rw [v3]; exact t1) (by rw [v3]; omega)
  have htop := top_ge v1 hvl (by rw [v3]; exact t2)
  rw [wa_i (by omega) (by omega), ret_bind, ret_mkL]
  refine ⟨by omega, by omega, ?_⟩
  rw [show ((a.length : Int) + 1).toNat = a.length + 1 by omega, ret_bind]
  have hane : a ≠ [] := by intro h; rw [h, List.length_nil] at hab; omega
  refine (up_ok ha (by omega) hane hs32).mono ?_
  rintro w ⟨w1, w2, w3⟩
  have halt := lv_lt ha
  have hwlt : lv w < pw a.length * 2 ^ s := by rw [w3]; exact Int.mul_lt_mul_of_pos_right halt p1
  have hwl : w.length ≤ a.length + 1 := by
    refine len_le w1 w2 ?_
    have h9 : pw a.length * 2 ^ s ≤ pw a.length * B := Int.mul_le_mul_of_nonneg_left (by omega) (by have := pw_pos a.length; omega)
    have h8 : pw (a.length + 1) = B * pw a.length := rfl
    rw [h8, Int.mul_comm B]; omega
  have hcp : cpI (List.replicate (a.length + 1) (0 : Int)) 0 ((List.replicate (a.length + 1) (0 : Int)).length : Int) w = some (w ++ List.replicate (a.length + 1 - w.length) 0, (w.length : Int)) := by
    unfold cpI
    rw [List.length_replicate, if_pos ⟨by omega, by omega, by omega⟩]
    have e1 : (((a.length + 1 : Nat) : Int)).toNat - ((0 : Int)).toNat = a.length + 1 := by omega
    rw [e1, List.take_of_length_le hwl, Nat.min_eq_left hwl, show ((0 : Int)).toNat = 0 from rfl, List.take_zero, List.nil_append, Nat.zero_add, List.drop_replicate]
  rw [hcp, obs]
  have hu0l : (w ++ List.replicate (a.length + 1 - w.length) (0 : Int)).length = a.length + 1 := by rw [List.length_append, List.length_replicate]; omega
  have hu0w : LW (w ++ List.replicate (a.length + 1 - w.length) (0 : Int)) := LW.app.2 ⟨w1, lw_zeros _⟩
  have hu0v : lv (w ++ List.replicate (a.length + 1 - w.length) (0 : Int)) = lv a * 2 ^ s := by rw [lv_app, lv_zeros, w3]; omega
  simp only
  generalize w ++ List.replicate (a.length + 1 - w.length) (0 : Int) = u0 at *
  obtain ⟨K, hK⟩ : ∃ K, a.length = K + m + 1 := ⟨a.length - m - 1, by omega⟩
  rw [show ws .i64 (u0.length : Int) (v.length : Int) = (K : Int) by rw [hu0l, hvl, ws_i (by omega) (by omega)]; omega, ret_bind, ret_mkL]
  refine ⟨by omega, by omega, ?_⟩
  rw [Int.toNat_natCast, List.length_replicate, ws_i (x := (K : Int)) (by omega) (by omega), ret_bind]
  have htopu : lv (u0.drop K) < lv v := by
    -- the highest limb is below the shift
    have h9 : lv u0 = lv (u0.take K) + pw K * lv (u0.drop K) := take_drop u0 (by omega)
    have h8 := lv_nn (LW.take hu0w K)
    have h7 : pw K * lv (u0.drop K) < pw a.length * 2 ^ s := by rw [w3] at hwlt; omega
    have h6 : pw a.length = pw K * pw (m + 1) := by rw [hK, show K + m + 1 = K + (m + 1) by omega, pw_add]
    rw [h6, Int.mul_assoc] at h7
    have h5 : lv (u0.drop K) < pw (m + 1) * 2 ^ s := Int.lt_of_mul_lt_mul_left h7 (Int.le_of_lt (pw_pos K))
    have h4 : pw (m + 1) * 2 ^ s ≤ pw (m + 1) * 2147483648 := Int.mul_le_mul_of_nonneg_left p2 (by omega)
    rw [Int.mul_comm (pw (m + 1)) 2147483648] at h4
    rw [v3]; omega
  refine (divL_ok hu0w v1 hvl (by omega) (by omega) htop htopu).mono ?_
  rintro ⟨q, u⟩ ⟨q1, q2, u1, u2, u3, u4⟩
  simp only at q1 q2 u1 u2 u3 u4 ⊢
  have hnl : (v.length : Int) = ((m + 2 : Nat) : Int) := by rw [hvl]
  rw [hnl, ret_bind, ret_sli]
  refine ⟨by omega, by omega, by omega, ?_⟩
  rw [Int.toNat_natCast, show ((0 : Int)).toNat = 0 from rfl, List.drop_zero]
  have htl : LW (u.take (m + 2)) := LW.take u1 _
  have hut : lv (u.take (m + 2)) = lv u := by
    have h9 : lv u = lv (u.take (m + 2)) + pw (m + 2) * lv (u.drop (m + 2)) := take_drop u (by omega)
    have h8 := lv_nn htl
    have h7 := lv_nn (LW.drop u1 (m + 2))
    have h6 : lv (u.drop (m + 2)) = 0 := by
      refine Classical.byContradiction fun hc => ?_
      have : pw (m + 2) * 1 ≤ pw (m + 2) * lv (u.drop (m + 2)) := Int.mul_le_mul_of_nonneg_left (by omega) (by have := pw_pos (m + 2); omega)
      rw [v3] at u4; omega
    rw [h6] at h9; omega
  rw [trim_ok htl (by rw [List.length_take]; omega), obs, ret_bind]
  refine (down_ok (trimL_lw htl) (by have := trim_len htl; rw [List.length_take] at this; omega) hs32).mono ?_
  rintro d ⟨d1, d2, d3⟩
  rw [trim_ok q1 (by omega), obs]
  rw [trimL_lv, hut] at d3
  refine ⟨_, rfl, trimL_lw q1, trimL_tm _, d1, d2, ?_⟩
  show lv (trimL q) = _ ∧ lv d.1 = _
  rw [trimL_lv]
  have hunn := lv_nn u1
  rw [hu0v, v3] at u3
  rw [v3] at u4
  have hR : lv u = (lv a - lv q * lv b) * 2 ^ s := by
    have : (lv a - lv q * lv b) * 2 ^ s = lv a * 2 ^ s - lv q * (lv b * 2 ^ s) := by grind
    omega
  have r0 : 0 ≤ lv a - lv q * lv b := by
    refine Classical.byContradiction fun hc => ?_
    have : (lv a - lv q * lv b) * 2 ^ s ≤ (-1) * 2 ^ s := Int.mul_le_mul_of_nonneg_right (by omega) (by omega)
    omega
  have r1 : lv a - lv q * lv b < lv b := by
    rw [hR] at u4
    exact Int.lt_of_mul_lt_mul_right u4 (Int.le_of_lt p1)
  have hq : lv q = lv a / lv b := Qt.eq (u := lv a) (v := lv b) ⟨by omega, by rw [Int.add_mul, Int.one_mul]; omega⟩ hbpos
  refine ⟨hq, ?_⟩
  rw [d3, hR, Int.mul_ediv_cancel _ (by omega)]
  have h9 := Int.mul_ediv_add_emod (lv a) (lv b)
  rw [← hq] at h9
  have h8 : lv q * lv b = lv b * lv q := Int.mul_comm _ _
  omega
/-- quotient and remainder of signed numbers -/
theorem divmod_bg {s t : Bool} {a b : List Int} (ha : LW a) (hb : LW b) (hn : a.length ≤ 800) (hm : b.length ≤ 800) (hne : sv t b ≠ 0) : Ret (integer_DivMod s a t b) (fun r => Bg (sv s a / sv t b) r.1 r.2.1 ∧ Bg (sv s a % sv t b) r.2.2.1 r.2.2.2.1 ∧ r.2.2.2.2 = 0) := by
  have la := trim_len ha
  have lb := trim_len hb
  have wa' := trimL_lw ha
  have wb' := trimL_lw hb
  have ta := trimL_tm a
  have tb := trimL_tm b
  have hb0 : trimL b ≠ [] := by
    intro h
    have : lv b = 0 := by rw [← trimL_lv, h]; rfl
    apply hne
    unfold sv; rw [this]; split <;> rfl
  have hbl := List.length_pos_iff.2 hb0
  have hbpos : 0 < lv b := by
    have h1 := tm_lower wb' tb hb0
    rw [trimL_lv] at h1
    have := pw_pos ((trimL b).length - 1)
    omega
  obtain ⟨q, r, hd, q1, q2, r1, r2, q3, r3⟩ := divide_ok wa' wb' ta tb hb0 (by omega) (by omega)
  rw [trimL_lv, trimL_lv] at q3 r3
  have h0 := lv_nn ha
  have e0 := Int.emod_nonneg (lv a) (show lv b ≠ 0 by omega)
  have e1 := Int.emod_lt_of_pos (lv a) hbpos
  have hdm := Int.mul_ediv_add_emod (lv a) (lv b)
  have hq0 : 0 ≤ lv a / lv b := Int.ediv_nonneg h0 (by omega)
  have hqle : lv a / lv b ≤ lv a := Int.ediv_le_self _ h0
  have hap := lt_pw ha hn
  have hbp := lt_pw hb hm
  have hp8 : 2 * pw 800 ≤ pw 801 := by
    have := pw_pos 800
    show 2 * pw 800 ≤ B * pw 800
    unfold B; omega
  have hql : q.length ≤ 801 := len_le q1 q2 (by omega)
  have hrl : r.length ≤ 801 := len_le r1 r2 (by omega)
  have fin : ∀ x y : List Int, LW x → x.length ≤ 1000 → LW y → y.length ≤ 1000 → sv (!(s == t)) x = sv s a / sv t b → lv y = sv s a % sv t b → Ret (integer_DivMod_j2 s t x y) (fun r => Bg (sv s a / sv t b) r.1 r.2.1 ∧ Bg (sv s a % sv t b) r.2.2.1 r.2.2.2.1 ∧ r.2.2.2.2 = 0) := by
    intro x y hx hxl hy hyl h1 h2
    unfold integer_DivMod_j2
    rw [ret_bind]
    refine (big_bg _ hx (by omega)).mono fun g hg => ?_
    rw [ret_bind]
    refine (big_bg false hy (by omega)).mono fun f hf => ⟨_, rfl, hg.cast h1, hf.cast ?_, rfl⟩
    rw [← h2]; rfl
  -- the quotient of the signed numbers
  have quot : ∀ z w : Int, sv s a = sv t b * z + w → 0 ≤ w → w < lv b → z = sv s a / sv t b ∧ w = sv s a % sv t b := by
    intro z w h1 h2 h3
    have h4 : w = sv s a % sv t b := by
      rw [h1, Int.mul_add_emod_self_left]
      unfold sv
      split
      · rw [Int.emod_neg, Int.emod_eq_of_lt h2 h3]
      · rw [Int.emod_eq_of_lt h2 h3]
    refine ⟨?_, h4⟩
    have h5 := Int.mul_ediv_add_emod (sv s a) (sv t b)
    have h6 : sv t b * (z - sv s a / sv t b) = 0 := by rw [Int.mul_sub]; omega
    rcases Int.mul_eq_zero.1 h6 with h | h
    · exact absurd h hne
    · omega
  unfold integer_DivMod
  rw [trim_ok hb (by omega), obs, if_neg (by omega), trim_ok ha (by omega), obs, hd, obs]
  simp only
  rw [ret_if]
  refine ⟨fun hc => ?_, fun hc => ?_⟩
  · simp only [Bool.and_eq_true, decide_eq_true_eq] at hc
    obtain ⟨hs, hrp⟩ := hc
    subst hs
    have hr0 : lv r ≠ 0 := fun h => by rw [(lv_zero r1 r2).1 h] at hrp; simp at hrp
    rw [ret_bind]
    refine (plus_ok q1 (b := [1]) (LW.one.2 ⟨by omega, by unfold B; omega⟩) (by omega) (by simp)).mono ?_
    rintro x ⟨x1, x2, x3⟩
    have l1 : lv [1] = 1 := by simp [lv]
    rw [l1] at x3
    rw [ret_bind]
    have hll : r.length ≤ (trimL b).length := by
      refine Classical.byContradiction fun hc => ?_
      have := tm_len wb' r1 tb r2 (by omega)
      rw [trimL_lv] at this; omega
    refine (minus_ok wb' r1 (by omega) hll (by rw [trimL_lv]; omega)).mono ?_
    rintro y ⟨y1, y2, y3⟩
    rw [trimL_lv] at y3
    have hxl : x.length ≤ 801 := len_le x1 x2 (by have := pw_pos 800; omega)
    have hyl : y.length ≤ 801 := len_le y1 y2 (by omega)
    obtain ⟨k1, k2⟩ := quot (sv (!(true == t)) x) (lv y) (by
      unfold sv
      rw [x3, y3, r3, q3]
      cases t
      · simp
        have h7 : lv b * (lv a / lv b + 1) = lv b * (lv a / lv b) + lv b := by grind
        rw [Int.mul_neg]; omega
      · simp
        have h7 : lv b * (lv a / lv b + 1) = lv b * (lv a / lv b) + lv b := by grind
        rw [Int.neg_mul]; omega) (lv_nn y1) (by omega)
    exact fin x y x1 (by omega) y1 (by omega) k1 k2
  · simp only [Bool.and_eq_true, decide_eq_true_eq, not_and] at hc
    obtain ⟨k1, k2⟩ := quot (sv (!(s == t)) q) (lv r) (by
      have n1 : -lv b * (lv a / lv b) = -(lv b * (lv a / lv b)) := by grind
      have n2 : lv b * -(lv a / lv b) = -(lv b * (lv a / lv b)) := by grind
      have n3 : -lv b * -(lv a / lv b) = lv b * (lv a / lv b) := by grind
      unfold sv
      rw [q3]
      cases s
      · cases t
        · simp
          first | omega | grind
        · simp
          first | omega | grind
      · have hr0 : lv r = 0 := by
          have h1 := hc rfl
          have : r = [] := List.eq_nil_of_length_eq_zero (by omega)
          rw [this]; rfl
        cases t
        · simp
          first | omega | grind
        · simp; omega) (by omega) (by omega)
    exact fin q r q1 (by omega) r1 (by omega) k1 k2
end Km
/- The paper's division of numbers of limbs. -/
namespace Km
open Sx Go M Vc Lm
/-- subtraction of a multiple, if it can be -/
theorem take_ok {A W Z v : List Int} {g : Int} (hg : 0 ≤ g ∧ g < B) (hW : LW W) (hv : LW v) (hl : W.length = v.length + 1) (hm : v.length ≤ 5000) (hA : A.length ≤ 10000) :
    ∃ X, sparseref01_take (A ++ W ++ Z) v (A.length : Int) g = some (if g * lv v ≤ lv W then (A ++ X ++ Z, true) else (A ++ W ++ Z, false)) ∧ LW X ∧ X.length = W.length ∧ (g * lv v ≤ lv W → lv X = lv W - g * lv v) := by
  have e : B = 4294967296 := rfl
  have hat : ∀ {i : Nat} {x : Int}, W[i]? = some x → (A ++ W ++ Z)[i + A.length]? = some x := by
    intro i x hx
    have hi := (List.getElem?_eq_some_iff.1 hx).1
    rw [List.append_assoc, List.getElem?_append_right (by omega), Nat.add_sub_cancel, List.getElem?_append_left hi]; exact hx
  have l3 : Ret (loop (sparseref01_take_l3 v (A ++ W ++ Z) (A.length : Int) g) (List.replicate (v.length + 1) 0, 0, 0, 0)) (fun r => LW r.1 ∧ r.1.length = v.length + 1 ∧ (r.2 = 0 ∨ r.2 = 1) ∧ lv r.1 = lv W - g * lv v + pw (v.length + 1) * r.2) := by
    refine (ret_loop (Post := fun r : List Int × Int => LW r.1 ∧ r.1.length = v.length + 1 ∧ (r.2 = 0 ∨ r.2 = 1) ∧ lv r.1 = lv W - g * lv v + pw (v.length + 1) * r.2) (v.length + 1) (fun k (s : List Int × Int × Int × Int) => s.2.2.2 = (k : Int) ∧ k ≤ v.length + 1 ∧ LW s.1 ∧ s.1.length = v.length + 1 ∧ (s.2.1 = 0 ∨ s.2.1 = 1) ∧ (0 ≤ s.2.2.1 ∧ s.2.2.1 < B) ∧ (k = v.length + 1 → s.2.2.1 = 0) ∧ lv (s.1.take k) = lv (W.take k) - g * lv (v.take k) + pw k * (s.2.2.1 + s.2.1)) ⟨rfl, by omega, lw_zeros _, List.length_replicate .., .inl rfl, ⟨by show (0 : Int) ≤ 0; omega, by show (0 : Int) < B; omega⟩, fun _ => rfl, by simp [lv]⟩ ?_ (by omega))
    rintro k ⟨o, b, c, _⟩ hk ⟨rfl, hk1, o1, o2, b1, c1, c2, hI⟩
    simp only at o1 o2 b1 c1 c2 hI
    unfold sparseref01_take_l3
    simp only
    rw [ret_if]
    refine ⟨fun hle => ?_, fun hgt => ⟨_, rfl, o1, o2, b1, ?_⟩⟩
    · have hkv : k < v.length + 1 := by omega
      obtain ⟨x, hx⟩ := get_of (l := W) (k := k) (by omega)
      have hxB := LW.get hW hx
      -- the step, for a new carry
      have key : ∀ d : Int, 0 ≤ d → d < 18446744073709551616 → (k = v.length → d < B) → lv (W.take (k + 1)) - g * lv (v.take (k + 1)) = lv (o.take k) + pw k * x - pw k * b - pw k * d → Ret (sparseref01_take_j5 (A ++ W ++ Z) (k : Int) (A.length : Int) o b d) (VQ (fun s : List Int × Int × Int × Int => k < v.length + 1 ∧ s.2.2.2 = ((k + 1 : Nat) : Int) ∧ k + 1 ≤ v.length + 1 ∧ LW s.1 ∧ s.1.length = v.length + 1 ∧ (s.2.1 = 0 ∨ s.2.1 = 1) ∧ (0 ≤ s.2.2.1 ∧ s.2.2.1 < B) ∧ (k + 1 = v.length + 1 → s.2.2.1 = 0) ∧ lv (s.1.take (k + 1)) = lv (W.take (k + 1)) - g * lv (v.take (k + 1)) + pw (k + 1) * (s.2.2.1 + s.2.1)) (fun r : List Int × Int => LW r.1 ∧ r.1.length = v.length + 1 ∧ (r.2 = 0 ∨ r.2 = 1) ∧ lv r.1 = lv W - g * lv v + pw (v.length + 1) * r.2)) := by
        intro d d0 d1 dk hd
        unfold sparseref01_take_j5
        have hm1 := Int.emod_nonneg d (show B ≠ 0 by omega)
        have hm2 := Int.emod_lt_of_pos d (show 0 < B by omega)
        have hdm := Int.mul_ediv_add_emod d B
        have q0 : 0 ≤ d / B := Int.ediv_nonneg d0 (by omega)
        have q1 : d / B < B := Int.ediv_lt_of_lt_mul (by omega) (by rw [e]; omega)
        obtain ⟨k1, k2⟩ := sub_top (v := x - b - d % B) (by omega) (by omega)
        have hz0 : 0 ≤ (x - b - d % B) % 18446744073709551616 := Int.emod_nonneg _ (by omega)
        have et : ws .u64 (ws .u64 (wc .u64 x) b) (wand .u64 d 4294967295) = (x - b - d % B) % 18446744073709551616 := by
          rw [wc_u64_in (x := x) ⟨hxB.1, by omega⟩, wand_low ⟨d0, d1⟩, ws_u64, ws_u64]; omega
        rw [wa_i (x := (k : Int)) (y := (A.length : Int)) (by omega) (by omega), ret_at (hat hx) (by omega), obs, et, wc_u32, wsrc63 hz0, wsrc32 d0, k1, k2, ret_bind, ret_set, Int.toNat_natCast]
        have hy0 : 0 ≤ x - b - d % B + B * (if x - b - d % B < 0 then 1 else 0) ∧ x - b - d % B + B * (if x - b - d % B < 0 then 1 else 0) < B := by split <;> omega
        refine ⟨by omega, by omega, _, rfl, hkv, by show wa .i64 (k : Int) 1 = _; rw [wa_i (by omega) (by omega)]; rfl, by omega, lw_set o1 hy0, by show (o.set k _).length = _; rw [List.length_set, o2], by show (if x - b - d % B < 0 then (1 : Int) else 0) = 0 ∨ (if x - b - d % B < 0 then (1 : Int) else 0) = 1; split <;> omega, ⟨q0, q1⟩, fun hk2 => by show d / B = 0; exact Int.ediv_eq_zero_of_lt d0 (dk (by omega)), ?_⟩
        show lv ((o.set k _).take (k + 1)) = _ + pw (k + 1) * (d / B + (if x - b - d % B < 0 then 1 else 0))
        rw [set_take (by omega), hd]
        simp only [pw]
        generalize (if x - b - d % B < 0 then (1 : Int) else 0) = β
        generalize d / B = q at *
        generalize d % B = r at *
        rw [← hdm]
        grind
      rw [ret_if]
      refine ⟨fun hlt => ?_, fun hge => ?_⟩
      · obtain ⟨y, hy⟩ := get_of (l := v) (k := k) (by omega)
        have hyB := LW.get hv hy
        have p0 := Int.mul_nonneg hg.1 hyB.1
        have p1 : g * y ≤ 4294967295 * 4294967295 := Int.mul_le_mul (by omega) (by omega) hyB.1 (by omega)
        rw [ret_at hy rfl, obs, wc_u64_in (x := y) ⟨hyB.1, by omega⟩, wm_u64 ⟨p0, by omega⟩, wa_u64 ⟨by omega, by omega⟩]
        refine key (c + g * y) (by omega) (by omega) (fun h => absurd h (by omega)) ?_
        rw [take_succ hx, take_succ hy, hI]
        grind
      · refine key c c1.1 (by omega) (fun _ => c1.2) ?_
        rw [take_succ hx, take_stay (a := v) (by omega), hI]
        grind
    · have hke : k = v.length + 1 := by omega
      have hc0 := c2 hke
      subst hke
      rw [take_all (by omega), take_all (by omega), take_all (l := v) (by omega), hc0] at hI
      show lv o = _ + pw (v.length + 1) * b
      rw [hI]; simp
  obtain ⟨⟨o, b⟩, hL, o1, o2, b1, hO⟩ := l3
  simp only at o1 o2 b1 hO
  have hOlt := lv_lt o1
  have hOnn := lv_nn o1
  rw [o2] at hOlt
  have hpos := pw_pos (v.length + 1)
  have hmk : mkL (0 : Int) (wa .i64 (v.length : Int) 1) = some (List.replicate (v.length + 1) 0) := by
    rw [wa_i (by omega) (by omega)]
    exact Ret.eq (by rw [ret_mkL]; exact ⟨by omega, by omega, by rw [show ((v.length : Int) + 1).toNat = v.length + 1 by omega]⟩)
  refine ⟨o, ?_, o1, by omega, ?_⟩
  · unfold sparseref01_take
    rw [hmk, obs, hL, obs]
    simp only
    rcases b1 with hb | hb
    · rw [hb] at hO
      rw [if_pos hb, if_pos (by omega)]
      refine Ret.eq ?_
      rw [ret_bind]
      refine (ret_loop (Post := fun r => r = A ++ o ++ Z) (v.length + 1) (fun k (s : List Int × Int) => s = (A ++ (o.take k ++ W.drop k) ++ Z, (k : Int)) ∧ k ≤ v.length + 1) ⟨by simp, by omega⟩ ?_ (by omega)).mono ?_
      · rintro k _ hk ⟨rfl, hk1⟩
        unfold sparseref01_take_l4
        simp only
        rw [ret_if]
        refine ⟨fun hle => ?_, fun hgt => ⟨_, rfl, ?_⟩⟩
        · obtain ⟨x, hx⟩ := get_of (l := o) (k := k) (by omega)
          obtain ⟨y, hy⟩ := get_of (l := W) (k := k) (by omega)
          have h1 := (List.getElem?_eq_some_iff.1 hy)
          rw [ret_at hx rfl, obs, wa_i (x := (k : Int)) (y := (A.length : Int)) (by omega) (by omega), ret_bind, ret_set]
          have hlen : (A ++ (o.take k ++ W.drop k) ++ Z).length = A.length + W.length + Z.length := by
            simp only [List.length_append, List.length_take, List.length_drop]; omega
          refine ⟨by omega, by rw [hlen]; omega, _, rfl, by omega, ?_, by omega⟩
          rw [wa_i (by omega) (by omega), show ((k : Int) + (A.length : Int)).toNat = A.length + k by omega]
          have hotk : (o.take k).length = k := by rw [List.length_take]; omega
          have hset : (A ++ (o.take k ++ W.drop k) ++ Z).set (A.length + k) x = A ++ (o.take (k + 1) ++ W.drop (k + 1)) ++ Z := by
            have hdk : W.drop k = y :: W.drop (k + 1) := by rw [List.drop_eq_getElem_cons h1.1, h1.2]
            rw [List.append_assoc, List.set_append_right _ _ (by omega), Nat.add_sub_cancel_left, List.append_assoc, List.set_append_right _ _ (by omega), hotk, Nat.sub_self, hdk, tks hx]
            simp only [List.append_assoc, List.cons_append, List.nil_append, List.set_cons_zero]
          rw [hset]; rfl
        · have hke : k = v.length + 1 := by omega
          subst hke
          show A ++ (o.take (v.length + 1) ++ W.drop (v.length + 1)) ++ Z = _
          rw [take_all (by omega), List.drop_of_length_le (by omega), List.append_nil]
      · rintro _ rfl
        exact ⟨_, rfl, rfl⟩
    · rw [hb] at hO
      rw [if_neg (by omega), if_neg (by omega)]
  · intro hle
    rcases b1 with hb | hb
    · rw [hb] at hO; omega
    · rw [hb] at hO; omega
/-- the digits, from the highest -/
theorem divLR_ok {b u0 v : List Int} {K m : Nat} (hu : LW u0) (hv : LW v) (hvl : v.length = m + 1) (hbl : b.length = m + 1) (hul : u0.length = K + m + 1) (hK : K + m ≤ 4000) (htop : ∀ x, v[m]? = some x → 0 < x) (h0 : lv (u0.drop K) < lv v) :
    Ret (loop (sparseref01_divMag_l4 b v) (u0, List.replicate K 0, (K : Int) - 1)) (fun r => LW r.2 ∧ r.2.length = K ∧ LW r.1 ∧ r.1.length = u0.length ∧ lv u0 = lv r.2 * lv v + lv r.1 ∧ lv r.1 < lv v) := by
  have e : B = 4294967296 := rfl
  refine (ret_loop (Post := fun r : List Int × List Int => LW r.2 ∧ r.2.length = K ∧ LW r.1 ∧ r.1.length = u0.length ∧ lv u0 = lv r.2 * lv v + lv r.1 ∧ lv r.1 < lv v) K (fun k (s : List Int × List Int × Int) => s.2.2 = (K : Int) - 1 - k ∧ k ≤ K ∧ LW s.2.1 ∧ s.2.1.length = K ∧ LW s.1 ∧ s.1.length = u0.length ∧ s.1.take (K - k) = u0.take (K - k) ∧ lv (u0.drop (K - k)) = lv (s.2.1.drop (K - k)) * lv v + lv (s.1.drop (K - k)) ∧ lv (s.1.drop (K - k)) < lv v) ⟨by show (K : Int) - 1 = _; omega, by omega, lw_zeros K, List.length_replicate .., hu, rfl, rfl, by show lv (u0.drop (K - 0)) = lv ((List.replicate K (0 : Int)).drop (K - 0)) * lv v + lv (u0.drop (K - 0)); rw [Nat.sub_zero, List.drop_replicate, Nat.sub_self]; simp [lv], h0⟩ ?_ (by omega))
  rintro k ⟨u, q, _⟩ hk ⟨rfl, hkK, q1, q2, u1, u2, u3, u4, u5⟩
  simp only at q1 q2 u1 u2 u3 u4 u5
  unfold sparseref01_divMag_l4
  simp only
  rw [ret_if]
  refine ⟨fun hge => ?_, fun hlt => ⟨_, rfl, q1, q2, u1, u2, ?_, ?_⟩⟩
  · obtain ⟨J, hJ⟩ : ∃ J : Nat, K = J + (k + 1) := ⟨K - (k + 1), by omega⟩
    have e1 : (K : Int) - 1 - (k : Int) = (J : Int) := by omega
    have e2 : K - k = J + 1 := by omega
    have e3 : K - (k + 1) = J := by omega
    rw [e2] at u3 u4 u5
    obtain ⟨x, hx⟩ := get_of (l := u) (k := J) (by omega)
    have hxB := LW.get u1 hx
    have hxu0 : u0[J]? = some x := by
      have h1 : (u.take (J + 1))[J]? = u[J]? := by rw [List.getElem?_take, if_pos (by omega)]
      have h2 : (u0.take (J + 1))[J]? = u0[J]? := by rw [List.getElem?_take, if_pos (by omega)]
      rw [← h2, ← u3, h1]; exact hx
    have hD := lv_drop hx
    have hD0 := lv_drop hxu0
    have hvlt := lv_lt hv
    rw [hvl] at hvlt
    have hn5 := lv_nn (LW.drop u1 (J + 1))
    have hsplit : u = u.take J ++ (u.drop J).take (m + 2) ++ u.drop (J + (m + 2)) := by
      rw [List.append_assoc]
      have h1 : (u.drop J).take (m + 2) ++ u.drop (J + (m + 2)) = u.drop J := by rw [← List.drop_drop, List.take_append_drop]
      rw [h1, List.take_append_drop]
    have hAl : (u.take J).length = J := by rw [List.length_take]; omega
    have hWl : ((u.drop J).take (m + 2)).length = m + 2 := by rw [List.length_take, List.length_drop]; omega
    have hWlw : LW ((u.drop J).take (m + 2)) := LW.take (LW.drop u1 J) _
    have hZlw : LW (u.drop (J + (m + 2))) := LW.drop u1 _
    have hDW : lv (u.drop J) = lv ((u.drop J).take (m + 2)) + pw (m + 2) * lv (u.drop (J + (m + 2))) := by
      rw [take_drop (u.drop J) (k := m + 2) (by rw [List.length_drop]; omega), List.drop_drop]
    have hDlt : lv (u.drop J) < lv v * B := by
      have : B * (lv (u.drop (J + 1)) + 1) ≤ B * lv v := Int.mul_le_mul_of_nonneg_left (by omega) (by omega)
      rw [Int.mul_add, Int.mul_one] at this
      rw [Int.mul_comm (lv v)]; omega
    have hWnn := lv_nn hWlw
    have hZnn := lv_nn hZlw
    have hp3 : pw (m + 2) = B * pw (m + 1) := rfl
    have hVB : lv v * B ≤ pw (m + 2) := by
      rw [hp3, Int.mul_comm B]; exact Int.mul_le_mul_of_nonneg_right (by omega) (by omega)
    have hZ0 : lv (u.drop (J + (m + 2))) = 0 := by
      refine Classical.byContradiction fun hc => ?_
      have : pw (m + 2) * 1 ≤ pw (m + 2) * lv (u.drop (J + (m + 2))) := Int.mul_le_mul_of_nonneg_left (by omega) (by have := pw_pos (m + 2); omega)
      omega
    rw [hZ0, Int.mul_zero, Int.add_zero] at hDW
    have hVpos : 0 < lv v := by omega
    have hd0 : 0 ≤ lv (u.drop J) / lv v := Int.ediv_nonneg (by omega) (by omega)
    have hd1 : lv (u.drop J) / lv v < B := Int.ediv_lt_of_lt_mul hVpos (by rw [Int.mul_comm]; exact hDlt)
    have hdm := Int.mul_ediv_add_emod (lv (u.drop J)) (lv v)
    have hr0 := Int.emod_nonneg (lv (u.drop J)) (show lv v ≠ 0 by omega)
    have hr1 := Int.emod_lt_of_pos (lv (u.drop J)) hVpos
    -- the first digits
    obtain ⟨vt, gt⟩ := get_of (l := v) (k := m) (by omega)
    obtain ⟨w1, k1⟩ := get_of (l := u) (k := J + m) (by omega)
    obtain ⟨wt, kt⟩ := get_of (l := u) (k := J + (m + 1)) (by omega)
    have bt := LW.get hv gt
    have c1 := LW.get u1 k1
    have ct := LW.get u1 kt
    have hvt := htop vt gt
    have hV : lv v = vt * pw m + lv (v.take m) := by
      rw [take_drop v (show m ≤ v.length by omega), lv_drop gt, List.drop_of_length_le (by omega)]
      simp only [lv]; grind
    have hU : lv (u.drop J) = (wt * B + w1) * pw m + lv ((u.drop J).take m) := by
      rw [take_drop (u.drop J) (show m ≤ (u.drop J).length by rw [List.length_drop]; omega), List.drop_drop, lv_drop k1, show J + m + 1 = J + (m + 1) by omega, lv_drop kt, show J + (m + 1) + 1 = J + (m + 2) by omega, hZ0]
      grind
    have tv := take_lt hv (i := m) (by omega)
    have tw := take_lt (LW.drop u1 J) (i := m) (by rw [List.length_drop]; omega)
    have hge : lv (u.drop J) / lv v * vt ≤ wt * B + w1 := guess_ge (P := pw m) (Qt.ediv hVpos) (pw_pos m) hU tw.2 hV tv.1 hvt hd0
    have et : wor .u64 (wslc .u64 (wc .u64 wt) 32) (wc .u64 w1) = wt * B + w1 := by
      rw [wc_u64_in (x := wt) ⟨ct.1, by omega⟩, wc_u64_in (x := w1) ⟨c1.1, by omega⟩, wslc32 ct, wor_hi ct c1]
    have t0 : 0 ≤ wt * B + w1 := by have := Int.mul_nonneg ct.1 (show 0 ≤ B by omega); omega
    have t1 : wt * B + w1 < 18446744073709551616 := by rw [e]; omega
    have hcv : wc .u64 vt = vt := wc_u64_in ⟨by omega, by omega⟩
    have hwq : wq .u64 (wt * B + w1) vt = some ((wt * B + w1) / vt) := by
      unfold wq
      have h0 : 0 ≤ (wt * B + w1) / vt := Int.ediv_nonneg t0 (by omega)
      have h1 : (wt * B + w1) / vt ≤ wt * B + w1 := Int.ediv_le_self _ t0
      rw [if_neg (by omega), Int.tdiv_eq_ediv_of_nonneg t0, IntWalk.u64_in _ ⟨h0, by omega⟩]
    have hq1 : lv (u.drop J) / lv v ≤ (wt * B + w1) / vt := (Int.le_ediv_iff_mul_le (by omega)).2 hge
    have hbn : (b.length : Int) = ((m + 1 : Nat) : Int) := by rw [hbl]
    have i1 : wa .i64 (J : Int) ((m + 1 : Nat) : Int) = ((J + (m + 1) : Nat) : Int) := by rw [wa_i (by omega) (by omega)]; omega
    have i2 : ws .i64 ((J + (m + 1) : Nat) : Int) 1 = ((J + m : Nat) : Int) := by rw [ws_i (by omega) (by omega)]; omega
    have i3 : ws .i64 ((m + 1 : Nat) : Int) 1 = (m : Int) := by rw [ws_i (by omega) (by omega)]; omega
    rw [e1, hbn, i1, i2, i3, ret_at kt rfl, obs, ret_at k1 rfl, obs, ret_at gt rfl, obs, et, hcv, hwq, obs, ret_bind]
    -- the guess goes down until it can be subtracted
    have hg0 : 0 ≤ imin ((wt * B + w1) / vt) 4294967295 ∧ imin ((wt * B + w1) / vt) 4294967295 < B ∧ lv (u.drop J) / lv v ≤ imin ((wt * B + w1) / vt) 4294967295 := by unfold imin; split <;> omega
    refine (ret_loopG (Post := fun r : List Int × Int => ∃ X, r = (u.take J ++ X ++ u.drop (J + (m + 2)), lv (u.drop J) / lv v) ∧ LW X ∧ X.length = m + 2 ∧ lv X = lv (u.drop J) % lv v) (fun (s : List Int × Int) => s.1 = u ∧ s.2 < B ∧ lv (u.drop J) / lv v ≤ s.2) (fun s => s.2.toNat) ⟨rfl, hg0.2.1, hg0.2.2⟩ (by show (imin _ _).toNat < _; omega) ?_).mono ?_
    · rintro ⟨u', g⟩ ⟨hu', hgB, hgQ⟩
      simp only at hu' hgB hgQ
      unfold sparseref01_divMag_l5
      simp only
      rw [hu']
      obtain ⟨X, hX, x1, x2, x3⟩ := take_ok (A := u.take J) (W := (u.drop J).take (m + 2)) (Z := u.drop (J + (m + 2))) (g := g) ⟨by omega, hgB⟩ hWlw hv (by omega) (by omega) (by omega)
      rw [← hsplit, ← hDW, hAl] at hX
      rw [← hDW] at x3
      rw [hX, obs]
      by_cases hle : g * lv v ≤ lv (u.drop J)
      · rw [if_pos hle, if_pos rfl]
        have hgq : g = lv (u.drop J) / lv v := Int.le_antisymm ((Int.le_ediv_iff_mul_le hVpos).2 hle) hgQ
        refine ⟨_, rfl, X, by rw [hgq], x1, by omega, ?_⟩
        rw [x3 hle, hgq]
        have h8 : lv (u.drop J) / lv v * lv v = lv v * (lv (u.drop J) / lv v) := Int.mul_comm _ _
        omega
      · rw [if_neg hle, if_neg (by simp)]
        have hlt : lv (u.drop J) / lv v < g := by
          refine Classical.byContradiction fun hc => hle ?_
          exact (Int.le_ediv_iff_mul_le hVpos).1 (by omega)
        have hw : ws .u64 g 1 = g - 1 := by rw [ws_u64]; omega
        refine ⟨_, rfl, ⟨rfl, ?_, ?_⟩, ?_⟩
        · show ws .u64 g 1 < B; omega
        · show _ ≤ ws .u64 g 1; omega
        · show (ws .u64 g 1).toNat < g.toNat; omega
    · rintro _ ⟨X, rfl, x1, x2, x3⟩
      simp only
      rw [wc_u32_in ⟨hd0, hd1⟩, ret_bind, ret_set, Int.toNat_natCast]
      have hUl : (u.take J ++ X ++ u.drop (J + (m + 2))).length = u0.length := by
        rw [List.length_append, List.length_append, hAl, x2, List.length_drop]; omega
      have hUd : lv ((u.take J ++ X ++ u.drop (J + (m + 2))).drop J) = lv X := by
        rw [List.append_assoc, List.drop_left' hAl, lv_app, hZ0]; omega
      refine ⟨by omega, by omega, _, rfl, by omega, ?_, by omega, lw_set q1 ⟨hd0, hd1⟩, by show (q.set J _).length = K; rw [List.length_set, q2], LW.app.2 ⟨LW.app.2 ⟨LW.take u1 _, x1⟩, hZlw⟩, hUl, ?_, ?_, ?_⟩
      · show ws .i64 (J : Int) 1 = _; rw [ws_i (by omega) (by omega)]; omega
      · rw [e3]
        show (u.take J ++ X ++ u.drop (J + (m + 2))).take J = _
        rw [List.append_assoc, List.take_left' hAl]
        have h1 : u.take J = (u.take (J + 1)).take J := by rw [List.take_take, Nat.min_eq_left (by omega)]
        rw [h1, u3, List.take_take, Nat.min_eq_left (by omega)]
      · rw [e3]
        show lv (u0.drop J) = lv ((q.set J (lv (u.drop J) / lv v)).drop J) * lv v + lv ((u.take J ++ X ++ u.drop (J + (m + 2))).drop J)
        have hqJ : (q.set J (lv (u.drop J) / lv v))[J]? = some (lv (u.drop J) / lv v) := by rw [List.getElem?_set_self]; omega
        rw [hUd, x3, lv_drop hqJ, List.drop_set_of_lt (by omega), hD0, u4]
        generalize lv (u.drop J) / lv v = Q at *
        generalize lv (u.drop J) % lv v = R at *
        have h9 : (Q + B * lv (q.drop (J + 1))) * lv v = lv v * Q + B * (lv (q.drop (J + 1)) * lv v) := by grind
        rw [h9, Int.mul_add]
        omega
      · rw [e3]
        show lv ((u.take J ++ X ++ u.drop (J + (m + 2))).drop J) < lv v
        rw [hUd, x3]; exact hr1
  · have ek : K - k = 0 := by omega
    rw [ek] at u4
    exact u4
  · have ek : K - k = 0 := by omega
    rw [ek] at u5
    exact u5
theorem shrR_ok {l : List Int} (hl : LW l) (hn : l.length ≤ 5000) {s : Nat} (hs : s < 32) : Ret (sparseref01_shr l (s : Int)) (fun r => LW r.1 ∧ r.1.length = l.length ∧ lv r.1 = lv l / 2 ^ s) := by
  have e : B = 4294967296 := rfl
  obtain ⟨hq, hr⟩ := small_shift hs
  obtain ⟨p1, p2, p3, p4⟩ := two_pow hs
  unfold sparseref01_shr
  rw [ret_bind, hq]
  refine (ret_loop (Post := fun b : Bool => b = false) 0 (fun k (t : Bool × Int) => t = (false, 0)) rfl ?_ (by omega)).mono ?_
  · rintro k _ hk rfl
    unfold sparseref01_shr_l4
    simp only
    rw [hq, if_neg (by simp)]
    exact ⟨_, rfl, rfl⟩
  rintro _ rfl
  rw [ret_bind]
  refine (ret_loop (Post := fun o : Bool × List Int => LW o.2 ∧ o.2.length = l.length ∧ lv o.2 = lv l / 2 ^ s) l.length (fun i (t : Bool × List Int × Int) => t.2.2 = (i : Int) ∧ LW t.2.1 ∧ t.2.1.length = i ∧ lv t.2.1 + pw i * (lv (l.drop i) / 2 ^ s) = lv l / 2 ^ s) ⟨rfl, by intro x hx; simp at hx, rfl, by simp [lv, pw]⟩ ?_ (by omega)).mono ?_
  · rintro i ⟨b, o, _⟩ hi ⟨rfl, h1, h2, h3⟩
    simp only at h1 h2 h3
    unfold sparseref01_shr_l15
    simp only
    rw [ret_if]
    refine ⟨fun hlt => ?_, fun hge => ⟨_, rfl, h1, ?_, ?_⟩⟩
    · have hia : i < l.length := by omega
      obtain ⟨x, hx⟩ := get_of (l := l) (k := i) hia
      have hxB := LW.get hl hx
      rw [ret_at hx rfl, obs]
      have key : ∀ y E : Int, 0 ≤ y → y < B → 0 ≤ E → lv (l.drop (i + 1)) = y + B * E → Ret (sparseref01_shr_j16 (i : Int) (s : Int) l o b (x + B * y)) (VQ (fun t' : Bool × List Int × Int => i < l.length ∧ t'.2.2 = ((i + 1 : Nat) : Int) ∧ LW t'.2.1 ∧ t'.2.1.length = i + 1 ∧ lv t'.2.1 + pw (i + 1) * (lv (l.drop (i + 1)) / 2 ^ s) = lv l / 2 ^ s) (fun o : Bool × List Int => LW o.2 ∧ o.2.length = l.length ∧ lv o.2 = lv l / 2 ^ s)) := by
        intro y E y0 y1 E0 hE
        have t0 : 0 ≤ x + B * y := by have := Int.mul_nonneg (show 0 ≤ B by omega) y0; omega
        have t1 : x + B * y < 18446744073709551616 := by rw [e]; omega
        have hsh : wshr .u64 (x + B * y) (wrc (s : Int) 32) = some ((x + B * y) / 2 ^ s) := by
          rw [hr]
          unfold wshr
          rw [if_neg (by omega), Int.toNat_natCast]
          show some (Int.fdiv _ (2 ^ min s 64)) = _
          rw [Nat.min_eq_left (by omega), Int.fdiv_eq_ediv_of_nonneg _ (by omega)]
        have hm := Int.emod_nonneg ((x + B * y) / 2 ^ s) (show B ≠ 0 by omega)
        have hm2 := Int.emod_lt_of_pos ((x + B * y) / 2 ^ s) (show 0 < B by omega)
        have fin : ∀ c : Bool, Ret (sparseref01_shr_j20 (x + B * y) (s : Int) o (i : Int) c) (VQ (fun t' : Bool × List Int × Int => i < l.length ∧ t'.2.2 = ((i + 1 : Nat) : Int) ∧ LW t'.2.1 ∧ t'.2.1.length = i + 1 ∧ lv t'.2.1 + pw (i + 1) * (lv (l.drop (i + 1)) / 2 ^ s) = lv l / 2 ^ s) (fun o : Bool × List Int => LW o.2 ∧ o.2.length = l.length ∧ lv o.2 = lv l / 2 ^ s)) := by
          intro c
          unfold sparseref01_shr_j20
          rw [hsh, obs, wc_u32, ret_bind, ret_app]
          refine ⟨by rw [h2]; simp only [List.length_cons, List.length_nil]; omega, _, rfl, hia, by show wa .i64 (i : Int) 1 = _; rw [wa_i (by omega) (by omega)]; rfl, LW.app.2 ⟨h1, LW.one.2 ⟨hm, hm2⟩⟩, by show (o ++ [_]).length = _; rw [List.length_append, h2]; rfl, ?_⟩
          show lv (o ++ [(x + B * y) / 2 ^ s % B]) + pw (i + 1) * (lv (l.drop (i + 1)) / 2 ^ s) = _
          rw [lv_snoc, h2, ← h3, lv_drop hx, hE, shr_limb hs hxB y0]
          simp only [pw]
          generalize (x + B * y) / 2 ^ s % B = u
          generalize (y + B * E) / 2 ^ s = v
          grind
        unfold sparseref01_shr_j16
        have hb : ∃ c : Bool, (if (i : Int) = wqc .i64 (s : Int) 32 then (getI l (i : Int)).bind fun x76 => (wshl .u32 1 (wrc (s : Int) 32)).bind fun x77 => some (!(decide ((wand .u32 x76 (ws .u32 x77 1)) = 0))) else some false) = some c := by
          split
          · rw [ret_at hx rfl, obs, hr]
            have : ∃ z, wshl .u32 1 (s : Int) = some z := by unfold wshl; rw [if_neg (by omega)]; exact ⟨_, rfl⟩
            obtain ⟨z, hz⟩ := this
            rw [hz, obs]; exact ⟨_, rfl⟩
          · exact ⟨_, rfl⟩
        obtain ⟨c, hc⟩ := hb
        rw [hc, obs, ret_if]
        exact ⟨fun _ => fin _, fun _ => fin _⟩
      have hcx : wc .u64 x = x := wc_u64_in ⟨hxB.1, by omega⟩
      rw [wa_i (x := (i : Int)) (by omega) (by omega), ret_if]
      refine ⟨fun hl2 => ?_, fun hl2 => ?_⟩
      · obtain ⟨y, hy⟩ := get_of (l := l) (k := i + 1) (by omega)
        have hyB := LW.get hl hy
        have hor : wor .u64 (wc .u64 x) (wslc .u64 (wc .u64 y) 32) = x + B * y := by
          rw [hcx, wc_u64_in (x := y) ⟨hyB.1, by omega⟩, wslc32 hyB]
          have : wor .u64 x (y * B) = wor .u64 (y * B) x := by unfold wor; rw [BitVec.or_comm]
          rw [this, wor_hi hyB hxB, Int.mul_comm]; omega
        rw [ret_at hy (by omega), obs, hor]
        exact key y (lv (l.drop (i + 1 + 1))) hyB.1 hyB.2 (lv_nn (LW.drop hl _)) (lv_drop hy)
      · have hE : lv (l.drop (i + 1)) = 0 := by rw [List.drop_of_length_le (by omega)]; rfl
        have := key 0 0 (by omega) (by omega) (by omega) (by rw [hE]; rfl)
        rw [Int.mul_zero, Int.add_zero] at this
        rw [hcx]
        exact this
    · show o.length = _; omega
    · have ei : i = l.length := by omega
      subst ei
      rw [List.drop_length] at h3
      show lv o = _
      rw [← h3]
      show lv o = lv o + pw l.length * (0 / 2 ^ s)
      rw [Int.zero_ediv]; omega
  · rintro ⟨b, o⟩ ⟨h1, h2, h3⟩
    exact ⟨_, rfl, h1, h2, h3⟩
theorem divMag_ok {a b : List Int} (ha : LW a) (hb : LW b) (ta : Tm a) (tb : Tm b) (hne : b ≠ []) (hn : a.length ≤ 900) (hm : b.length ≤ 900) : Ret (sparseref01_divMag a b) (fun r => LW r.1 ∧ r.1.length ≤ 901 ∧ LW r.2 ∧ r.2.length ≤ 901 ∧ lv r.1 = lv a / lv b ∧ lv r.2 = lv a % lv b) := by
  have e : B = 4294967296 := rfl
  have hbl : 0 < b.length := List.length_pos_iff.2 hne
  have hbpos : 0 < lv b := by
    have h1 := tm_lower hb tb hne
    have := pw_pos (b.length - 1)
    omega
  have h0 := lv_nn ha
  unfold sparseref01_divMag
  rw [cmpMag_ok ha hb ta tb (by omega) (by omega), obs]
  by_cases hlt : lv a < lv b
  · rw [if_pos hlt, if_pos (by omega)]
    exact ⟨_, rfl, by intro x hx; simp at hx, by simp, ha, by show a.length ≤ 901; omega, by rw [Int.ediv_eq_zero_of_lt h0 hlt]; rfl, by rw [Int.emod_eq_of_lt h0 hlt]⟩
  obtain ⟨m, hbm⟩ : ∃ m, b.length = m + 1 := ⟨b.length - 1, by omega⟩
  have hab : b.length ≤ a.length := by
    refine Classical.byContradiction fun hc => ?_
    have := tm_len ha hb ta tb (by omega)
    omega
  obtain ⟨bt, gt⟩ := get_of (l := b) (k := m) (by omega)
  have hbt := LW.get hb gt
  have hbt0 : 0 < bt := by
    have := tb bt (by rw [List.getLast?_eq_getElem?, hbm]; exact gt)
    omega
  obtain ⟨s, hs, hs32, hs1, hs2⟩ := lead_ok hbt0 hbt.2
  obtain ⟨p1, p2, p3, p4⟩ := two_pow hs32
  have hpm := pw_pos m
  -- the divisor's size after the shift
  have hV : lv b = lv (b.take m) + pw m * bt := by rw [← take_succ gt, take_all (by omega)]
  have hbtk := take_lt hb (i := m) (by omega)
  have hbt2 : bt < 2 ^ (32 - s) := by
    refine Classical.byContradiction fun hc => ?_
    have : 2 ^ (32 - s) * 2 ^ s ≤ bt * 2 ^ s := Int.mul_le_mul_of_nonneg_right (by omega) (by omega)
    rw [Int.mul_comm] at this; omega
  have h3 : (bt + 1) * 2 ^ s ≤ B := by
    have : (bt + 1) * 2 ^ s ≤ 2 ^ (32 - s) * 2 ^ s := Int.mul_le_mul_of_nonneg_right (by omega) (by omega)
    rw [Int.mul_comm (2 ^ (32 - s))] at this; omega
  have t1 : lv b * 2 ^ s < pw (m + 1) := by
    have h4 : lv b * 2 ^ s < (pw m * (bt + 1)) * 2 ^ s := Int.mul_lt_mul_of_pos_right (by rw [Int.mul_add]; omega) p1
    have h5 : pw m * ((bt + 1) * 2 ^ s) ≤ pw m * B := Int.mul_le_mul_of_nonneg_left h3 (by omega)
    have h6 : pw (m + 1) = B * pw m := rfl
    rw [Int.mul_assoc] at h4
    rw [h6, Int.mul_comm B]; omega
  have t2 : 2147483648 * pw m ≤ lv b * 2 ^ s := by
    have h4 : pw m * bt * 2 ^ s ≤ lv b * 2 ^ s := Int.mul_le_mul_of_nonneg_right (by omega) (by omega)
    have h5 : pw m * 2147483648 ≤ pw m * (bt * 2 ^ s) := Int.mul_le_mul_of_nonneg_left (by omega) (by omega)
    rw [Int.mul_assoc] at h4
    rw [Int.mul_comm 2147483648]; omega
  have hcmp : ¬ (if lv a < lv b then (-1 : Int) else if lv b < lv a then 1 else 0) < 0 := by rw [if_neg hlt]; split <;> omega
  have hn1 : ws .i64 (b.length : Int) 1 = (m : Int) := by rw [hbm, ws_i (by omega) (by omega)]; omega
  rw [if_neg hcmp, hn1, ret_at gt rfl, obs, hs, obs, ret_bind]
  refine (shl_ok ha (by omega) hs32).mono ?_
  rintro u0 ⟨w1, w2, w3⟩
  rw [ret_bind]
  refine (shl_ok hb (by omega) hs32).mono ?_
  rintro v0 ⟨y1, y2, y3⟩
  rw [ret_bind, ret_sli]
  refine ⟨by omega, by omega, by omega, ?_⟩
  rw [Int.toNat_natCast, show ((0 : Int)).toNat = 0 from rfl, List.drop_zero, hbm, if_neg (by omega)]
  have v1 : LW (v0.take (m + 1)) := LW.take y1 _
  have hvl : (v0.take (m + 1)).length = m + 1 := by rw [List.length_take]; omega
  have v3 : lv (v0.take (m + 1)) = lv b * 2 ^ s := by
    have h9 : lv v0 = lv (v0.take (m + 1)) + pw (m + 1) * lv (v0.drop (m + 1)) := take_drop v0 (by omega)
    have h8 := lv_nn v1
    have h7 := lv_nn (LW.drop y1 (m + 1))
    have h6 : lv (v0.drop (m + 1)) = 0 := by
      refine Classical.byContradiction fun hc => ?_
      have : pw (m + 1) * 1 ≤ pw (m + 1) * lv (v0.drop (m + 1)) := Int.mul_le_mul_of_nonneg_left (by omega) (by have := pw_pos (m + 1); omega)
      omega
    rw [h6] at h9; omega
  generalize v0.take (m + 1) = v at *
  obtain ⟨K, hK⟩ : ∃ K, a.length = K + m := ⟨a.length - m, by omega⟩
  unfold sparseref01_divMag_j1
  have hKe : wa .i64 (ws .i64 (a.length : Int) (b.length : Int)) 1 = (K : Int) := by
    rw [ws_i (by omega) (by omega), wa_i (by omega) (by omega)]; omega
  have hKe2 : ws .i64 (a.length : Int) (b.length : Int) = (K : Int) - 1 := by rw [ws_i (by omega) (by omega)]; omega
  rw [hKe, hKe2, ret_bind, ret_mkL]
  refine ⟨by omega, by omega, ?_⟩
  rw [Int.toNat_natCast, ret_bind]
  have htop : ∀ x, v[m]? = some x → 0 < x := by
    intro x hx
    refine Classical.byContradiction fun hc => ?_
    have hVx : lv v = lv (v.take m) + pw m * x := by rw [← take_succ hx, take_all (by omega)]
    have ht := take_lt v1 (i := m) (by omega)
    have h4 : pw m * x ≤ pw m * 0 := Int.mul_le_mul_of_nonneg_left (by omega) (by omega)
    omega
  have htopu : lv (u0.drop K) < lv v := by
    have h9 : lv u0 = lv (u0.take K) + pw K * lv (u0.drop K) := take_drop u0 (by omega)
    have h8 := lv_nn (LW.take w1 K)
    have hwlt : lv u0 < pw a.length * 2 ^ s := by rw [w3]; exact Int.mul_lt_mul_of_pos_right (lv_lt ha) p1
    have h7 : pw K * lv (u0.drop K) < pw a.length * 2 ^ s := by omega
    have h6 : pw a.length = pw K * pw m := by rw [hK, pw_add]
    rw [h6, Int.mul_assoc] at h7
    have h5 : lv (u0.drop K) < pw m * 2 ^ s := Int.lt_of_mul_lt_mul_left h7 (Int.le_of_lt (pw_pos K))
    have h4 : pw m * 2 ^ s ≤ pw m * 2147483648 := Int.mul_le_mul_of_nonneg_left p2 (by omega)
    rw [Int.mul_comm (pw m) 2147483648] at h4
    rw [v3]; omega
  refine (divLR_ok w1 v1 hvl hbm (by omega) (by omega) htop htopu).mono ?_
  rintro ⟨u, q⟩ ⟨q1, q2, u1, u2, u3, u4⟩
  simp only at q1 q2 u1 u2 u3 u4 ⊢
  rw [trimR_ok u1 (by omega), obs, ret_bind]
  have lu := trim_len u1
  refine (shrR_ok (trimL_lw u1) (by omega) hs32).mono ?_
  rintro ⟨d, lost⟩ ⟨d1, d2, d3⟩
  simp only at d1 d2 d3 ⊢
  rw [trimR_ok q1 (by omega), obs, trimR_ok d1 (by omega), obs]
  rw [trimL_lv] at d3
  have lq := trim_len q1
  have ld := trim_len d1
  refine ⟨_, rfl, trimL_lw q1, by show (trimL q).length ≤ 901; omega, trimL_lw d1, by show (trimL d).length ≤ 901; omega, ?_⟩
  show lv (trimL q) = _ ∧ lv (trimL d) = _
  rw [trimL_lv, trimL_lv]
  have hunn := lv_nn u1
  rw [w3, v3] at u3
  rw [v3] at u4
  have hR : lv u = (lv a - lv q * lv b) * 2 ^ s := by
    have : (lv a - lv q * lv b) * 2 ^ s = lv a * 2 ^ s - lv q * (lv b * 2 ^ s) := by grind
    omega
  have r0 : 0 ≤ lv a - lv q * lv b := by
    refine Classical.byContradiction fun hc => ?_
    have : (lv a - lv q * lv b) * 2 ^ s ≤ (-1) * 2 ^ s := Int.mul_le_mul_of_nonneg_right (by omega) (by omega)
    omega
  have r1 : lv a - lv q * lv b < lv b := by
    rw [hR] at u4
    exact Int.lt_of_mul_lt_mul_right u4 (Int.le_of_lt p1)
  have hq : lv q = lv a / lv b := Qt.eq (u := lv a) (v := lv b) ⟨by omega, by rw [Int.add_mul, Int.one_mul]; omega⟩ hbpos
  refine ⟨hq, ?_⟩
  rw [d3, hR, Int.mul_ediv_cancel _ (by omega)]
  have h9 := Int.mul_ediv_add_emod (lv a) (lv b)
  rw [← hq] at h9
  have h8 : lv q * lv b = lv b * lv q := Int.mul_comm _ _
  omega
end Km
/- Quotients, remainders and greatest common divisors of signed numbers, both sides. -/
namespace Km
open Sx Go M Vc Lm
theorem quot_uniq {x y z w : Int} (hy : y ≠ 0) (h : x = y * z + w) (h0 : 0 ≤ w) (h1 : w < y ∨ w < -y) : z = x / y ∧ w = x % y := by
  have h4 : w = x % y := by
    rw [h, Int.mul_add_emod_self_left]
    rcases h1 with h1 | h1
    · rw [Int.emod_eq_of_lt h0 h1]
    · have := Int.emod_neg w y
      rw [← this, Int.emod_eq_of_lt h0 h1]
  refine ⟨?_, h4⟩
  have h5 := Int.mul_ediv_add_emod x y
  have h6 : y * (z - x / y) = 0 := by rw [Int.mul_sub]; omega
  rcases Int.mul_eq_zero.1 h6 with h | h
  · exact absurd h hy
  · omega
theorem normR_bg {s : Bool} {a : List Int} (ha : LW a) (hn : a.length ≤ 1000000) : Ret (sparseref01_Norm s a) (fun r => Bg (sv s a) r.1 r.2 ∧ r.2.length ≤ a.length) := by
  have h := norm_ok s ha hn
  obtain ⟨q, hq, hB⟩ := make_bg s ha hn
  have hN : sparseref01_Norm s a = some q := by unfold sparseref01_Norm; rw [hq, obs]
  refine ⟨q, hN, hB, ?_⟩
  rw [hN] at h
  obtain rfl := Option.some.inj h
  exact trim_len ha
theorem absR_bg {s : Bool} {a : List Int} (ha : LW a) (hn : a.length ≤ 1000000) : Ret (sparseref01_Abs s a) (fun r => Bg (lv a) r.1 r.2 ∧ r.2.length ≤ a.length) := by
  unfold sparseref01_Abs
  rw [ret_bind]
  have h := make1_ok false ha hn
  obtain ⟨q, hq, hB⟩ := make_bg false ha hn
  refine ⟨q, hq, _, rfl, hB, ?_⟩
  rw [h] at hq
  obtain rfl := Option.some.inj hq
  exact trim_len ha
theorem divmodR_bg {s t : Bool} {a b : List Int} (ha : LW a) (hb : LW b) (hn : a.length ≤ 800) (hm : b.length ≤ 800) (hne : sv t b ≠ 0) : Ret (sparseref01_DivMod s a t b) (fun r => Bg (sv s a / sv t b) r.1 r.2.1 ∧ Bg (sv s a % sv t b) r.2.2.1 r.2.2.2) := by
  unfold sparseref01_DivMod
  rw [ret_bind]
  refine (normR_bg (s := s) ha (by omega)).mono ?_
  rintro ⟨s', a'⟩ ⟨hA, lA⟩
  rw [ret_bind]
  refine (normR_bg (s := t) hb (by omega)).mono ?_
  rintro ⟨t', b'⟩ ⟨hB, lB⟩
  simp only at hA lA hB lB ⊢
  generalize sv s a = x at *
  generalize sv t b = y at *
  have hb0 : b' ≠ [] := by
    rintro rfl
    have := hB.sv
    apply hne; rw [← this]; unfold sv; split <;> rfl
  have hbpos : 0 < lv b' := by
    have h1 := tm_lower hB.1 hB.2.1 hb0
    have := pw_pos (b'.length - 1)
    omega
  have h0 := lv_nn hA.1
  have e0 := Int.emod_nonneg (lv a') (show lv b' ≠ 0 by omega)
  have e1 := Int.emod_lt_of_pos (lv a') hbpos
  have hdm := Int.mul_ediv_add_emod (lv a') (lv b')
  have hq0 : 0 ≤ lv a' / lv b' := Int.ediv_nonneg h0 (by omega)
  rw [ret_bind]
  refine (divMag_ok hA.1 hB.1 hA.2.1 hB.2.1 hb0 (by omega) (by omega)).mono ?_
  rintro ⟨q, r⟩ ⟨q1, q2, r1, r2, q3, r3⟩
  simp only at q1 q2 r1 r2 q3 r3 ⊢
  rw [ret_bind]
  refine (make_bg (!(s' == t')) q1 (by omega)).mono ?_
  rintro ⟨qs, ql⟩ hQ
  rw [ret_bind]
  refine (make_bg s' r1 (by omega)).mono ?_
  rintro ⟨rs, rl⟩ hR
  simp only at hQ hR ⊢
  have hap := lt_pw hA.1 (m := 800) (by omega)
  have hbp := lt_pw hB.1 (m := 800) (by omega)
  have hqle : lv a' / lv b' ≤ lv a' := Int.ediv_le_self _ h0
  have hp8 : 2 * pw 800 ≤ pw 801 := by
    have := pw_pos 800
    show 2 * pw 800 ≤ B * pw 800
    unfold B; omega
  have hrl : rl.length ≤ 801 := by refine hR.len ?_ ?_ <;> (unfold sv; split <;> omega)
  have hql : ql.length ≤ 801 := by refine hQ.len ?_ ?_ <;> (unfold sv; split <;> omega)
  rw [signR_bg hR (by omega), obs, ret_if]
  have vx := hA.sv
  have vy := hB.sv
  have n1 : -lv b' * (lv a' / lv b') = -(lv b' * (lv a' / lv b')) := by grind
  have n2 : lv b' * -(lv a' / lv b') = -(lv b' * (lv a' / lv b')) := by grind
  have n3 : -lv b' * -(lv a' / lv b') = lv b' * (lv a' / lv b') := by grind
  refine ⟨fun hc => ?_, fun hc => ?_⟩
  · have hneg : sv s' r < 0 := by revert hc; split <;> (try split) <;> omega
    have hs' : s' = true := by
      refine Classical.byContradiction fun h => ?_
      unfold sv at hneg; rw [if_neg h] at hneg
      have := lv_nn r1; omega
    subst hs'
    rw [ret_bind]
    refine (absR_bg (s := t') hB.1 (by omega)).mono ?_
    rintro ⟨bs, bl⟩ ⟨hb1, hb2⟩
    simp only at hb1 hb2 ⊢
    rw [ret_bind]
    refine (addR_bg (s := rs) (t := bs) hR.1 hb1.1 (by omega) (by omega)).mono ?_
    rintro ⟨us, ul⟩ hU
    simp only at hU ⊢
    rw [hR.sv, hb1.sv] at hU
    unfold sv at hneg
    rw [if_pos rfl, r3] at hneg
    have vr : sv true r = - (lv a' % lv b') := by unfold sv; rw [if_pos rfl, r3]
    rw [vr] at hU
    unfold sv at vx
    rw [if_pos rfl] at vx
    -- the quotient moves by one
    have fin : ∀ (u : Bool) (w : List Int), Bg (if t' = true then sv (!(true == t')) q + 1 else sv (!(true == t')) q - 1) u w → Ret (sparseref01_DivMod_j4 (us, ul) u w) (fun r => Bg (x / y) r.1 r.2.1 ∧ Bg (x % y) r.2.2.1 r.2.2.2) := by
      intro u w hw
      obtain ⟨k1, k2⟩ := quot_uniq (x := x) (y := y) (z := if t' = true then sv (!(true == t')) q + 1 else sv (!(true == t')) q - 1) (w := - (lv a' % lv b') + lv b') hne (by
        rw [← vx, ← vy]
        unfold sv
        rw [q3]
        cases t'
        · simp
          have h7 : lv b' * (-(lv a' / lv b') - 1) = -(lv b' * (lv a' / lv b')) - lv b' := by grind
          omega
        · simp
          have h7 : -lv b' * (lv a' / lv b' + 1) = -(lv b' * (lv a' / lv b')) - lv b' := by grind
          omega) (by omega) (by
        rw [← vy]; unfold sv; split
        · right; omega
        · left; omega)
      exact ⟨_, rfl, hw.cast k1, hU.cast k2⟩
    rw [ret_if]
    refine ⟨fun ht => ?_, fun ht => ?_⟩
    · rw [ret_bind]
      refine (fromR_bg (n := 1) (by omega) (by omega)).mono ?_
      rintro ⟨os, ol⟩ hO
      simp only at hO ⊢
      have hol : ol.length ≤ 1 := hO.len (by decide) (by decide)
      rw [ret_bind]
      refine (addR_bg (s := qs) (t := os) hQ.1 hO.1 (by omega) (by omega)).mono fun r hr => ?_
      rw [hQ.sv, hO.sv] at hr
      exact fin _ _ (by rw [if_pos ht]; exact hr)
    · rw [ret_bind]
      refine (fromR_bg (n := 1) (by omega) (by omega)).mono ?_
      rintro ⟨os, ol⟩ hO
      simp only at hO ⊢
      have hol : ol.length ≤ 1 := hO.len (by decide) (by decide)
      rw [ret_bind]
      refine (subR_bg (s := qs) (t := os) hQ.1 hO.1 (by omega) (by omega)).mono fun r hr => ?_
      rw [hQ.sv, hO.sv] at hr
      exact fin _ _ (by rw [if_neg ht]; exact hr)
  · have hnn : 0 ≤ sv s' r := by
      refine Classical.byContradiction fun h => hc ?_
      rw [if_pos (by omega)]; omega
    obtain ⟨k1, k2⟩ := quot_uniq (x := x) (y := y) (z := sv (!(s' == t')) q) (w := sv s' r) hne (by
      rw [← vx, ← vy]
      unfold sv
      rw [q3, r3]
      cases s'
      · cases t'
        · simp; omega
        · simp; omega
      · unfold sv at hnn
        rw [if_pos rfl, r3] at hnn
        cases t'
        · simp; omega
        · simp; omega) hnn (by
      rw [← vy]; unfold sv; rw [r3]; split <;> split <;> omega)
    exact ⟨_, rfl, hQ.cast k1, hR.cast k2⟩
/-! ### greatest common divisors -/
theorem pw_two : ∀ n, pw n = 2 ^ (32 * n)
  | 0 => rfl
  | n + 1 => by
    rw [Nat.mul_add, Int.pow_add, ← pw_two n, Int.mul_comm]
    rfl
theorem pow2_le {k n : Nat} (h : (2 : Int) ^ k ≤ 2 ^ n) : k ≤ n := by
  have h2 : (2 : Nat) ^ k ≤ 2 ^ n := by exact_mod_cast h
  exact (Nat.pow_le_pow_iff_right (by omega)).1 h2
/-- a step of Euclid's algorithm halves the product -/
theorem half_step {x y : Int} (hy : 0 < y) (h : y ≤ x) : 2 * (y * (x % y)) ≤ x * y := by
  have h1 := Int.mul_ediv_add_emod x y
  have h2 := Int.emod_nonneg x (show y ≠ 0 by omega)
  have h3 := Int.emod_lt_of_pos x hy
  have h4 : 1 ≤ x / y := (Int.le_ediv_iff_mul_le hy).2 (by omega)
  have h5 : y * 1 ≤ y * (x / y) := Int.mul_le_mul_of_nonneg_left h4 (by omega)
  have h6 : 2 * (x % y) ≤ x := by omega
  have h7 : 2 * (x % y) * y ≤ x * y := Int.mul_le_mul_of_nonneg_right h6 (by omega)
  have h8 : 2 * (x % y) * y = 2 * (y * (x % y)) := by grind
  omega
theorem gcd_step {x y : Int} (hy : 0 < y) : Int.gcd y (x % y) = Int.gcd x y := by
  have h := Int.mul_ediv_add_emod x y
  have h2 := Int.gcd_add_mul_left_left y (x % y) (x / y)
  rw [Int.add_comm, h] at h2
  rw [Int.gcd_comm, h2]
/-- the run of Euclid's algorithm -/
structure GI (G : Nat) (n k : Nat) (x y : Int) : Prop where
  gx : 0 ≤ x
  gy : 0 ≤ y
  gg : Int.gcd x y = G
  glt : 0 < k → y < x
  gp : x * y * 2 ^ k ≤ 2 ^ n
theorem GI.rounds {G n k : Nat} {x y : Int} (h : GI G n k x y) (hk : 0 < k) (hy : 0 < y) : k ≤ n := by
  have h1 := h.glt hk
  have h2 : 0 < x * y := Int.mul_pos (by omega) hy
  have h3 : (0 : Int) < 2 ^ k := Int.pow_pos (by omega)
  have h4 : 1 * 2 ^ k ≤ x * y * 2 ^ k := Int.mul_le_mul_of_nonneg_right (by omega) (by omega)
  exact pow2_le (Int.le_trans (by omega) h.gp)
theorem GI.step {G n k : Nat} {x y : Int} (h : GI G n k x y) (hy : 0 < y) (h0 : k = 0 → x * y * 2 ≤ 2 ^ n) : GI G n (k + 1) y (x % y) := by
  have h2 := Int.emod_nonneg x (show y ≠ 0 by omega)
  have h3 := Int.emod_lt_of_pos x hy
  refine ⟨h.gy, h2, (gcd_step hy).trans h.gg, fun _ => h3, ?_⟩
  have hp : (0 : Int) < 2 ^ k := Int.pow_pos (by omega)
  by_cases hxy : y ≤ x
  · have h4 := half_step hy hxy
    have h5 : 2 * (y * (x % y)) * 2 ^ k ≤ x * y * 2 ^ k := Int.mul_le_mul_of_nonneg_right h4 (by omega)
    have h6 : y * (x % y) * 2 ^ (k + 1) = 2 * (y * (x % y)) * 2 ^ k := by rw [Int.pow_succ]; grind
    have := h.gp
    omega
  · have hk : k = 0 := by
      refine Classical.byContradiction fun hc => ?_
      have := h.glt (by omega)
      omega
    have h4 := h0 hk
    subst hk
    rw [Int.emod_eq_of_lt h.gx (by omega)]
    have : y * x * 2 ^ (0 + 1) = x * y * 2 := by rw [Int.mul_comm y]; rfl
    omega
theorem gcdP_ok {s t : Bool} {a b : List Int} (ha : LW a) (hb : LW b) (hn : a.length ≤ 400) (hm : b.length ≤ 400) : Ret (integer_GCD s a t b) (fun r => Bg ((Int.gcd (sv s a) (sv t b) : Nat) : Int) r.1 r.2) := by
  have hgv : Int.gcd (sv s a) (sv t b) = Int.gcd (lv a) (lv b) := by unfold sv; cases s <;> cases t <;> simp [Int.gcd_neg, Int.neg_gcd]
  rw [hgv]
  have la := trim_len ha
  have lb := trim_len hb
  obtain ⟨n, hn1, hn2⟩ : ∃ n : Nat, n < 100000 ∧ lv a * lv b * 2 ≤ 2 ^ n := by
    refine ⟨32 * 400 + 32 * 400 + 1, by omega, ?_⟩
    rw [Int.pow_succ, Int.pow_add, ← pw_two]
    have h1 := lt_pw ha hn
    have h2 := lt_pw hb hm
    have := Int.mul_le_mul (Int.le_of_lt h1) (Int.le_of_lt h2) (lv_nn hb) (Int.le_of_lt (pw_pos 400))
    omega
  unfold integer_GCD
  rw [trim_ok ha (by omega), obs, clone_ok (by omega), obs, trim_ok hb (by omega), obs, clone_ok (by omega), obs, ret_bind]
  have hstart : GI (Int.gcd (lv a) (lv b)) n 0 (lv (trimL a)) (lv (trimL b)) := by
    rw [trimL_lv, trimL_lv]
    refine ⟨lv_nn ha, lv_nn hb, rfl, fun h => absurd h (by omega), ?_⟩
    rw [Int.pow_zero]
    have := Int.mul_nonneg (lv_nn ha) (lv_nn hb)
    omega
  have hab : ∀ x y : Int, x = lv (trimL a) → y = lv (trimL b) → x * y * 2 ≤ 2 ^ n := by
    rintro _ _ rfl rfl
    rw [trimL_lv, trimL_lv]; exact hn2
  refine (ret_loop (Post := fun o : List Int => LW o ∧ Tm o ∧ o.length ≤ 400 ∧ lv o = ((Int.gcd (lv a) (lv b) : Nat) : Int)) (n + 1) (fun k (p : List Int × List Int) => (LW p.1 ∧ Tm p.1 ∧ p.1.length ≤ 400) ∧ (LW p.2 ∧ Tm p.2 ∧ p.2.length ≤ 400) ∧ GI (Int.gcd (lv a) (lv b)) n k (lv p.1) (lv p.2) ∧ (k = 0 → p = (trimL a, trimL b))) ⟨⟨trimL_lw ha, trimL_tm a, by show (trimL a).length ≤ 400; omega⟩, ⟨trimL_lw hb, trimL_tm b, by show (trimL b).length ≤ 400; omega⟩, hstart, fun _ => rfl⟩ ?_ (by omega)).mono ?_
  · rintro k ⟨x, y⟩ hk ⟨⟨x1, x2, x3⟩, ⟨y1, y2, y3⟩, hG, hk0⟩
    simp only at x1 x2 x3 y1 y2 y3 hG
    unfold integer_GCD_l1
    simp only
    rw [ret_if]
    refine ⟨fun hy => ?_, fun hy => ⟨_, rfl, x1, x2, x3, ?_⟩⟩
    · have hne : y ≠ [] := by rintro rfl; simp at hy
      have hyp : 0 < lv y := by
        have h1 := tm_lower y1 y2 hne
        have := pw_pos (y.length - 1)
        omega
      obtain ⟨q, r, hd, q1, q2, r1, r2, q3, r3⟩ := divide_ok x1 y1 x2 y2 hne (by omega) (by omega)
      rw [hd, obs]
      have hstep := hG.step hyp (fun h => by
        have := hk0 h
        injection this with e1 e2
        exact hab _ _ (by rw [e1]) (by rw [e2]))
      have hrl : r.length ≤ 400 := by
        refine len_le r1 r2 ?_
        have h1 := lt_pw y1 y3
        have h2 := Int.emod_lt_of_pos (lv x) hyp
        omega
      refine ⟨_, rfl, ?_, ⟨y1, y2, y3⟩, ⟨r1, r2, hrl⟩, ?_, fun h => absurd h (by omega)⟩
      · rcases Nat.eq_zero_or_pos k with h | h
        · omega
        · have := hG.rounds h hyp; omega
      · show GI _ n (k + 1) (lv y) (lv r)
        rw [r3]; exact hstep
    · have : y = [] := List.eq_nil_of_length_eq_zero (by omega)
      subst this
      have hg := hG.gg
      show lv x = _
      have hz : lv ([] : List Int) = 0 := rfl
      rw [hz, Int.gcd_zero_right] at hg
      rw [← hg]
      have := lv_nn x1
      omega
  · rintro o ⟨o1, o2, o3, o4⟩
    rw [ret_bind]
    refine (big_bg false o1 (by omega)).mono fun r hr => ⟨_, rfl, hr.cast ?_⟩
    rw [← o4]; rfl
theorem gcdR_ok {s t : Bool} {a b : List Int} (ha : LW a) (hb : LW b) (hn : a.length ≤ 400) (hm : b.length ≤ 400) : Ret (sparseref01_GCD s a t b) (fun r => Bg ((Int.gcd (sv s a) (sv t b) : Nat) : Int) r.1 r.2) := by
  have hgv : Int.gcd (sv s a) (sv t b) = Int.gcd (lv a) (lv b) := by unfold sv; cases s <;> cases t <;> simp [Int.gcd_neg, Int.neg_gcd]
  rw [hgv]
  have h1a := lt_pw ha hn
  have h1b := lt_pw hb hm
  have nna := lv_nn ha
  have nnb := lv_nn hb
  obtain ⟨n, hn1, hn2⟩ : ∃ n : Nat, n < 100000 ∧ lv a * lv b * 2 ≤ 2 ^ n := by
    refine ⟨32 * 400 + 32 * 400 + 1, by omega, ?_⟩
    rw [Int.pow_succ, Int.pow_add, ← pw_two]
    have := Int.mul_le_mul (Int.le_of_lt h1a) (Int.le_of_lt h1b) nnb (Int.le_of_lt (pw_pos 400))
    omega
  unfold sparseref01_GCD
  rw [ret_bind]
  refine (absR_bg (s := s) ha (by omega)).mono ?_
  rintro ⟨sa, xa⟩ ⟨hA, lA⟩
  rw [ret_bind]
  refine (absR_bg (s := t) hb (by omega)).mono ?_
  rintro ⟨sb, xb⟩ ⟨hB, lB⟩
  simp only at hA lA hB lB ⊢
  rw [ret_bind]
  refine (ret_loop (Post := fun o : Bool × List Int => Bg ((Int.gcd (lv a) (lv b) : Nat) : Int) o.1 o.2) (n + 1) (fun k (p : Bool × List Int × Bool × List Int) => ∃ x y, Bg x p.1 p.2.1 ∧ Bg y p.2.2.1 p.2.2.2 ∧ x < pw 400 ∧ y < pw 400 ∧ GI (Int.gcd (lv a) (lv b)) n k x y ∧ (k = 0 → x = lv a ∧ y = lv b)) ⟨lv a, lv b, hA, hB, h1a, h1b, ⟨nna, nnb, rfl, fun h => absurd h (by omega), by rw [Int.pow_zero]; have := Int.mul_nonneg nna nnb; omega⟩, fun _ => ⟨rfl, rfl⟩⟩ ?_ (by omega)).mono ?_
  · rintro k ⟨sx, xx, sy, yy⟩ hk ⟨x, y, hX, hY, xp, yp, hG, hk0⟩
    simp only at hX hY
    have hx0 := hG.gx
    have hy0 := hG.gy
    have lX : xx.length ≤ 400 := hX.len (by have := pw_pos 400; omega) xp
    have lY : yy.length ≤ 400 := hY.len (by have := pw_pos 400; omega) yp
    unfold sparseref01_GCD_l2
    simp only
    rw [signR_bg hY (by omega), obs, ret_if]
    refine ⟨fun hz => ⟨_, rfl, ?_⟩, fun hz => ?_⟩
    · have : y = 0 := by revert hz; split <;> (try split) <;> omega
      subst this
      have hg := hG.gg
      rw [Int.gcd_zero_right] at hg
      exact hX.cast (by omega)
    · have hyp : 0 < y := by
        refine Classical.byContradiction fun hc => hz ?_
        rw [if_neg (by omega), if_neg (by omega)]
      rw [ret_bind]
      refine (divmodR_bg (s := sx) (t := sy) hX.1 hY.1 (by omega) (by omega) (by rw [hY.sv]; omega)).mono fun r hr => ?_
      rw [hX.sv, hY.sv] at hr
      have h2 := Int.emod_lt_of_pos x hyp
      refine ⟨_, rfl, ?_, y, x % y, hY, hr.2, yp, by omega, hG.step hyp (fun h => ?_), fun h => absurd h (by omega)⟩
      · rcases Nat.eq_zero_or_pos k with h | h
        · omega
        · have := hG.rounds h hyp; omega
      · obtain ⟨rfl, rfl⟩ := hk0 h
        exact hn2
  · rintro o ho
    exact ⟨_, rfl, ho⟩
end Km
/- Rational reconstruction: what both sides compute. -/
namespace Km
open Sx Go M Vc Lm
/-- two remainders in a row and their factors, after k steps -/
def es (m x : Int) : Nat → Int × Int × Int × Int
  | 0 => (m, x, 0, 1)
  | k + 1 => ((es m x k).2.1, (es m x k).1 % (es m x k).2.1, (es m x k).2.2.2, (es m x k).2.2.1 - (es m x k).1 / (es m x k).2.1 * (es m x k).2.2.2)
def go (m x : Int) (k : Nat) : Prop := ∀ j, j < k → m < 2 * ((es m x j).2.1 * (es m x j).2.1)
def fst (m x : Int) (k : Nat) : Prop := go m x k ∧ 2 * ((es m x k).2.1 * (es m x k).2.1) ≤ m
theorem fst_uniq {m x : Int} {k l : Nat} (h : fst m x k) (h' : fst m x l) : k = l := by
  rcases Nat.lt_trichotomy k l with hl | rfl | hl
  · have := h'.1 k hl; have := h.2; omega
  · rfl
  · have := h.1 l hl; have := h'.2; omega
section
variable {m x : Int}
theorem es_eu (hm : 0 < m) (hx : 0 ≤ x ∧ x < m) : ∀ k, go m x k → Nt.Eu m x (es m x k).1 (es m x k).2.1 (es m x k).2.2.1 (es m x k).2.2.2
  | 0, _ => Nt.Eu.start hm hx
  | k + 1, h => by
    have hE := es_eu hm hx k fun j hj => h j (by omega)
    have h1 := h k (by omega)
    have h2 := hE.n1
    have hr : 0 < (es m x k).2.1 := by
      rcases Int.lt_or_eq_of_le h2 with h3 | h3
      · exact h3
      · rw [← h3] at h1; omega
    have hS := hE.step hr
    have e : (es m x k).1 - (es m x k).1 / (es m x k).2.1 * (es m x k).2.1 = (es m x k).1 % (es m x k).2.1 := by
      have := Int.mul_ediv_add_emod (es m x k).1 (es m x k).2.1
      rw [Int.mul_comm] at this; omega
    rw [e] at hS
    exact hS
theorem eu_pos {r0 r1 t0 t1 : Int} (hE : Nt.Eu m x r0 r1 t0 t1) (h : m < 2 * (r1 * r1)) (hm : 0 < m) : 0 < r1 := by
  have h2 := hE.n1
  rcases Int.lt_or_eq_of_le h2 with h3 | h3
  · exact h3
  · rw [← h3] at h; omega
theorem eu_bounds {r0 r1 t0 t1 : Int} (hE : Nt.Eu m x r0 r1 t0 t1) : r0 ≤ m ∧ r1 ≤ m ∧ (-m ≤ t1 ∧ t1 ≤ m) ∧ (0 < r1 → -m ≤ t0 ∧ t0 ≤ m) := by
  have h0 := hE.n0
  have h1 := hE.n1
  have hs := hE.sum
  have ht := hE.t
  have a0 := Nt.ab_nn t0
  have a1 : 1 ≤ Nt.ab t1 := by unfold Nt.ab; split <;> omega
  have p0 : 0 ≤ r1 * Nt.ab t0 := Int.mul_nonneg h1 a0
  have p1 : r0 * 1 ≤ r0 * Nt.ab t1 := Int.mul_le_mul_of_nonneg_left a1 (by omega)
  have p2 : 1 * Nt.ab t1 ≤ r0 * Nt.ab t1 := Int.mul_le_mul_of_nonneg_right (by omega) (by omega)
  have hle := hE.le
  refine ⟨by omega, by omega, ?_, fun hr => ?_⟩
  · have h3 : Nt.ab t1 ≤ m := by omega
    unfold Nt.ab at h3; split at h3 <;> omega
  · have p3 : 1 * Nt.ab t0 ≤ r1 * Nt.ab t0 := Int.mul_le_mul_of_nonneg_right (by omega) a0
    have p4 : 0 ≤ r0 * Nt.ab t1 := Int.mul_nonneg (by omega) (by omega)
    have h3 : Nt.ab t0 ≤ m := by omega
    unfold Nt.ab at h3; split at h3 <;> omega
theorem es_prod (hm : 0 < m) (hx : 0 ≤ x ∧ x < m) : ∀ k, go m x k → (es m x k).1 * (es m x k).2.1 * 2 ^ k ≤ m * m
  | 0, _ => by
    show m * x * 2 ^ 0 ≤ m * m
    rw [Int.pow_zero, Int.mul_one]
    exact Int.mul_le_mul_of_nonneg_left (by omega) (by omega)
  | k + 1, h => by
    have hg : go m x k := fun j hj => h j (by omega)
    have hE := es_eu hm hx k hg
    have hr := eu_pos hE (h k (by omega)) hm
    have ih := es_prod hm hx k hg
    have h4 := half_step hr hE.le
    have hp : (0 : Int) < 2 ^ k := Int.pow_pos (by omega)
    have h5 : 2 * ((es m x k).2.1 * ((es m x k).1 % (es m x k).2.1)) * 2 ^ k ≤ (es m x k).1 * (es m x k).2.1 * 2 ^ k := Int.mul_le_mul_of_nonneg_right h4 (by omega)
    show (es m x k).2.1 * ((es m x k).1 % (es m x k).2.1) * 2 ^ (k + 1) ≤ m * m
    have h6 : (es m x k).2.1 * ((es m x k).1 % (es m x k).2.1) * 2 ^ (k + 1) = 2 * ((es m x k).2.1 * ((es m x k).1 % (es m x k).2.1)) * 2 ^ k := by rw [Int.pow_succ]; grind
    omega
theorem es_round (hm : 0 < m) (hx : 0 ≤ x ∧ x < m) (hb : m < pw 10) {k : Nat} (hg : go m x k) (hc : m < 2 * ((es m x k).2.1 * (es m x k).2.1)) : k ≤ 640 := by
  have hE := es_eu hm hx k hg
  have hr := eu_pos hE hc hm
  have h1 := es_prod hm hx k hg
  have h2 : 0 < (es m x k).1 * (es m x k).2.1 := Int.mul_pos hE.n0 hr
  have hp : (0 : Int) < 2 ^ k := Int.pow_pos (by omega)
  have h3 : 1 * 2 ^ k ≤ (es m x k).1 * (es m x k).2.1 * 2 ^ k := Int.mul_le_mul_of_nonneg_right (by omega) (by omega)
  have h4 : m * m ≤ pw 10 * pw 10 := Int.mul_le_mul (by omega) (by omega) (by omega) (by omega)
  have h5 : pw 10 * pw 10 = 2 ^ (32 * 10 + 32 * 10) := by rw [pw_two, Int.pow_add]
  rw [h5] at h4
  have := pow2_le (k := k) (n := 32 * 10 + 32 * 10) (by omega)
  omega
end
theorem within_ok {v w : Int} {s t : Bool} {a b : List Int} (ha : Bg v s a) (hb : LW b) (hw : sv t b = w) (hn : a.length ≤ 100) (hm : b.length ≤ 100) : modular_within s a t b = some (decide (2 * (v * v) ≤ w)) := by
  refine Ret.eq ?_
  unfold modular_within
  rw [ret_bind]
  refine (mul_bg (s := s) (t := s) ha.1 ha.1 (by omega) (by omega)).mono fun q hq => ?_
  rw [ha.sv] at hq
  have hal := lt_pw ha.1 (m := 100) hn
  have hann := lv_nn ha.1
  have habs := ha.abs
  have hvv : 0 ≤ v * v := by
    rcases Int.le_total 0 v with h | h
    · exact Int.mul_nonneg h h
    · exact Int.mul_nonneg_of_nonpos_of_nonpos h h
  have hvlt : v * v < pw 200 := by
    have h1 : v * v = lv a * lv a := by rw [habs]; split <;> grind
    have h2 : lv a * lv a ≤ lv a * pw 100 := Int.mul_le_mul_of_nonneg_left (by omega) hann
    have h3 : lv a * pw 100 < pw 100 * pw 100 := Int.mul_lt_mul_of_pos_right hal (pw_pos 100)
    have h4 : pw 200 = pw 100 * pw 100 := pw_add 100 100
    omega
  have hql : q.2.length ≤ 200 := hq.len (by have := pw_pos 200; omega) hvlt
  rw [ret_bind]
  refine (add_bg (s := q.1) (t := q.1) hq.1 hq.1 (by omega) (by omega)).mono fun d hd => ?_
  rw [hq.sv] at hd
  have hdl : d.2.length ≤ 201 := by
    have h4 : pw 201 = B * pw 200 := rfl
    have h5 := pw_pos 200
    have e : B = 4294967296 := rfl
    refine hd.len ?_ ?_ <;> (rw [h4, e]; omega)
  rw [cmp_bg (s := d.1) (t := t) hd.1 hb (by omega) (by omega), obs, hd.sv, hw]
  refine ⟨_, rfl, ?_⟩
  show decide _ = decide _
  rw [decide_eq_decide]
  split <;> (try split) <;> omega
theorem twiceR_ok {v w : Int} {s t : Bool} {a b : List Int} (ha : Bg v s a) (hb : LW b) (hw : sv t b = w) (hn : a.length ≤ 100) (hm : b.length ≤ 100) {β : Type} (f : Int → Option β) :
    ((sparseref01_Mul s a s a).bind fun r98 => (sparseref01_Shift r98.1 r98.2 1).bind fun r100 => (sparseref01_Cmp r100.1 r100.2 t b).bind fun r102 => f r102) = f (if 2 * (v * v) < w then -1 else if w < 2 * (v * v) then 1 else 0) := by
  obtain ⟨q, hq0, hq⟩ := mulR_bg (s := s) (t := s) ha.1 ha.1 (by omega) (by omega)
  rw [ha.sv] at hq
  have hal := lt_pw ha.1 (m := 100) hn
  have hann := lv_nn ha.1
  have habs := ha.abs
  have hvv : 0 ≤ v * v := by
    rcases Int.le_total 0 v with h | h
    · exact Int.mul_nonneg h h
    · exact Int.mul_nonneg_of_nonpos_of_nonpos h h
  have hvlt : v * v < pw 200 := by
    have h1 : v * v = lv a * lv a := by rw [habs]; split <;> grind
    have h2 : lv a * lv a ≤ lv a * pw 100 := Int.mul_le_mul_of_nonneg_left (by omega) hann
    have h3 : lv a * pw 100 < pw 100 * pw 100 := Int.mul_lt_mul_of_pos_right hal (pw_pos 100)
    have h4 : pw 200 = pw 100 * pw 100 := pw_add 100 100
    omega
  have hql : q.2.length ≤ 200 := hq.len (by have := pw_pos 200; omega) hvlt
  obtain ⟨d, hd0, hd⟩ := dblR_bg (s := q.1) hq.1 (by omega)
  rw [hq.sv] at hd
  have hdl : d.2.length ≤ 201 := by
    have h4 : pw 201 = B * pw 200 := rfl
    have h5 := pw_pos 200
    have e : B = 4294967296 := rfl
    refine hd.len ?_ ?_ <;> (rw [h4, e]; omega)
  rw [hq0, obs, hd0, obs, cmpR_bg (s := d.1) (t := t) hd.1 hb (by omega) (by omega), obs, hd.sv, hw]
section
variable {m x : Int}
/-- what both loops end with -/
def RL (m x : Int) (r : Bool × List Int × Bool × List Int) : Prop := ∃ k, fst m x k ∧ Bg (es m x k).2.1 r.1 r.2.1 ∧ Bg (es m x k).2.2.2 r.2.2.1 r.2.2.2
theorem len10 {v : Int} {s : Bool} {l : List Int} (h : Bg v s l) (hb : m < pw 10) (h1 : -m ≤ v) (h2 : v ≤ m) : l.length ≤ 10 := h.len (by omega) (by omega)
theorem loopP_ok (hm : 0 < m) (hx : 0 ≤ x ∧ x < m) (hb : m < pw 10) {s4 : Bool} {l5 : List Int} (h5 : LW l5) (h5l : l5.length ≤ 10) (h5v : sv s4 l5 = m) {s1 s2 s3 : Bool} {l1 l2 l3 : List Int} (i1 : Bg m s1 l1) (i2 : Bg x s2 l2) (i3 : Bg 1 s3 l3) :
    Ret (loop (modular_Rational_l2 s4 l5) (s1, l1, s2, l2, false, [], s3, l3)) (RL m x) := by
  refine ret_loop (Post := RL m x) 700 (fun k (s : Bool × List Int × Bool × List Int × Bool × List Int × Bool × List Int) =>
    (k = 0 ∧ Bg m s.1 s.2.1 ∧ Bg x s.2.2.1 s.2.2.2.1 ∧ Bg 0 s.2.2.2.2.1 s.2.2.2.2.2.1 ∧ Bg 1 s.2.2.2.2.2.2.1 s.2.2.2.2.2.2.2) ∨
    (∃ i, k = i + 1 ∧ go m x i ∧ Bg (es m x i).2.1 s.1 s.2.1 ∧ Bg (es m x i).2.2.2 s.2.2.2.2.1 s.2.2.2.2.2.1 ∧ ∃ n u, Bg n s.2.2.1 s.2.2.2.1 ∧ Bg u s.2.2.2.2.2.2.1 s.2.2.2.2.2.2.2 ∧ (-m ≤ n ∧ n ≤ m) ∧ (-m ≤ u ∧ u ≤ m) ∧ ((es m x i).2.1 ≠ 0 → n = (es m x (i + 1)).2.1 ∧ u = (es m x (i + 1)).2.2.2)))
    (.inl ⟨rfl, i1, i2, bg_zero, i3⟩) ?_ (by omega)
  rintro k ⟨sr, lr, sn, ln, st, lt, su, lu⟩ hk hI
  simp only at hI
  unfold modular_Rational_l2
  simp only
  -- the division, whatever the divisor is
  have div : ∀ (r n t u : Int), Bg r sr lr → Bg n sn ln → Bg t st lt → Bg u su lu → (0 ≤ r ∧ r ≤ m) → (0 ≤ n ∧ n ≤ m) → (-m ≤ t ∧ t ≤ m) → (-m ≤ u ∧ u ≤ m) → ∀ (Q : (Bool × List Int × Bool × List Int × Bool × List Int × Bool × List Int) ⊕ (Bool × List Int × Bool × List Int) → Prop),
      (∀ a b c d, Bg (if n = 0 then 0 else r % n) a b → Bg (t - (if n = 0 then 0 else r / n) * u) c d → Q (.inl (sn, ln, a, b, su, lu, c, d))) →
      Ret ((integer_DivMod sr lr sn ln).bind fun r118 => (integer_Mul r118.1 r118.2.1 su lu).bind fun r123 => (integer_Sub st lt r123.1 r123.2).bind fun r125 => some (Sum.inl (sn, ln, r118.2.2.1, r118.2.2.2.1, su, lu, r125.1, r125.2))) Q := by
    intro r n t u hr hn ht hu br bn bt bu Q hQ
    have lr10 := len10 hr hb (by omega) br.2
    have ln10 := len10 hn hb (by omega) bn.2
    have lt10 := len10 ht hb bt.1 bt.2
    have lu10 := len10 hu hb bu.1 bu.2
    have fin : ∀ (a : Bool) (b : List Int) (c : Bool) (d : List Int) (e : Int), Bg (if n = 0 then 0 else r / n) a b → Bg (if n = 0 then 0 else r % n) c d → (0 ≤ (if n = 0 then 0 else r / n) ∧ (if n = 0 then 0 else r / n) ≤ m) → Ret ((some (a, b, c, d, e)).bind fun r118 : Bool × List Int × Bool × List Int × Int => (integer_Mul r118.1 r118.2.1 su lu).bind fun r123 => (integer_Sub st lt r123.1 r123.2).bind fun r125 => some (Sum.inl (sn, ln, r118.2.2.1, r118.2.2.2.1, su, lu, r125.1, r125.2))) Q := by
      intro a b c d e hq hr' bq
      have lb10 := len10 hq hb (by omega) bq.2
      rw [obs]
      simp only
      rw [ret_bind]
      refine (mul_bg (s := a) (t := su) hq.1 hu.1 (by omega) (by omega)).mono fun g hg => ?_
      rw [hq.sv, hu.sv] at hg
      generalize (if n = 0 then 0 else r / n) = q at *
      have hgl : g.2.length ≤ 20 := by
        have h4 : pw 20 = pw 10 * pw 10 := pw_add 10 10
        have h5 : q * u ≤ m * m := by
          have h6 : q * u ≤ q * m := Int.mul_le_mul_of_nonneg_left bu.2 bq.1
          have h7 : q * m ≤ m * m := Int.mul_le_mul_of_nonneg_right bq.2 (by omega)
          omega
        have h6 : -(m * m) ≤ q * u := by
          have h6 : q * (-m) ≤ q * u := Int.mul_le_mul_of_nonneg_left bu.1 bq.1
          have h7 : q * m ≤ m * m := Int.mul_le_mul_of_nonneg_right bq.2 (by omega)
          have h8 : q * (-m) = -(q * m) := by grind
          omega
        have h7 : m * m < pw 10 * pw 10 := by
          have h8 : m * m ≤ m * pw 10 := Int.mul_le_mul_of_nonneg_left (by omega) (by omega)
          have h9 : m * pw 10 < pw 10 * pw 10 := Int.mul_lt_mul_of_pos_right hb (pw_pos 10)
          omega
        exact hg.len (by omega) (by omega)
      rw [ret_bind]
      refine (sub_bg (s := st) (t := g.1) ht.1 hg.1 (by omega) (by omega)).mono fun w hw => ?_
      rw [ht.sv, hg.sv] at hw
      exact ⟨_, rfl, hQ _ _ _ _ hr' hw⟩
    by_cases h0 : n = 0
    · subst h0
      have hln : ln = [] := (lv_zero hn.1 hn.2.1).1 (by rw [hn.abs]; simp)
      have hd : integer_DivMod sr lr sn ln = some (false, [], false, [], 8) := by
        unfold integer_DivMod
        rw [hln, trim_ok (by intro x hx; simp at hx) (by simp), obs]
        rfl
      rw [hd]
      exact fin _ _ _ _ _ (by rw [if_pos rfl]; exact bg_zero) (by rw [if_pos rfl]; exact bg_zero) (by rw [if_pos rfl]; omega)
    · rw [ret_bind]
      refine (divmod_bg (s := sr) (t := sn) hr.1 hn.1 (by omega) (by omega) (by rw [hn.sv]; exact h0)).mono ?_
      rintro ⟨a, b, c, d, e⟩ ⟨hq, hr', _⟩
      rw [hr.sv, hn.sv] at hq hr'
      have hq0 : 0 ≤ r / n := Int.ediv_nonneg br.1 bn.1
      have hq1 : r / n ≤ r := Int.ediv_le_self _ br.1
      have := fin a b c d e (by rw [if_neg h0]; exact hq) (by rw [if_neg h0]; exact hr') (by rw [if_neg h0]; omega)
      rw [obs] at this
      exact this
  rcases hI with ⟨rfl, hr, hn, ht, hu⟩ | ⟨i, rfl, hg, hr, ht, n, u, hn, hu, bn, bu, hnu⟩
  · have lr10 := len10 hr hb (by omega) (Int.le_refl m)
    rw [within_ok hr h5 h5v (by omega) (by omega), obs, if_neg]
    · refine div m x 0 1 hr hn ht hu ⟨by omega, by omega⟩ ⟨hx.1, by omega⟩ ⟨by omega, by omega⟩ ⟨by omega, by omega⟩ _ fun a b c d ha hc => ?_
      refine ⟨by omega, .inr ⟨0, rfl, fun j hj => absurd hj (by omega), hn, hu, _, _, ha, hc, ?_, ?_, fun hx0 => ?_⟩⟩
      · split
        · omega
        · have h1 := Int.emod_nonneg m (show x ≠ 0 by omega)
          have h2 := Int.emod_lt_of_pos m (show 0 < x by omega)
          omega
      · split
        · omega
        · have hq0 : 0 ≤ m / x := Int.ediv_nonneg (by omega) hx.1
          have hq1 : m / x ≤ m := Int.ediv_le_self _ (by omega)
          omega
      · have hx0 : x ≠ 0 := hx0
        rw [if_neg hx0, if_neg hx0]
        exact ⟨rfl, rfl⟩
    · have : m * 1 ≤ m * m := Int.mul_le_mul_of_nonneg_left (by omega) (by omega)
      simp
      omega
  · have hE := es_eu hm hx i hg
    obtain ⟨b1, b2, b3, b4⟩ := eu_bounds hE
    have hr0 := hE.n1
    have lr10 := len10 hr hb (by omega) b2
    rw [within_ok hr h5 h5v (by omega) (by omega), obs, ret_if]
    refine ⟨fun hc => ⟨_, rfl, i, ⟨hg, by simpa using hc⟩, hr, ht⟩, fun hc => ?_⟩
    have hc : m < 2 * ((es m x i).2.1 * (es m x i).2.1) := by
      have : ¬ 2 * ((es m x i).2.1 * (es m x i).2.1) ≤ m := by simpa using hc
      omega
    have hpos := eu_pos hE hc hm
    have hrd := es_round hm hx hb hg hc
    have hg1 : go m x (i + 1) := by
      intro j hj
      by_cases e : j = i
      · subst e; exact hc
      · exact hg j (by omega)
    have hE1 := es_eu hm hx (i + 1) hg1
    obtain ⟨c1, c2, c3, c4⟩ := eu_bounds hE1
    have hn10 := hE1.n1
    obtain ⟨rfl, rfl⟩ := hnu (by omega)
    refine div (es m x i).2.1 (es m x (i + 1)).2.1 (es m x i).2.2.2 (es m x (i + 1)).2.2.2 hr hn ht hu ⟨hr0, b2⟩ ⟨hn10, c2⟩ b3 bu _ fun a b c d ha hc2 => ?_
    refine ⟨by omega, .inr ⟨i + 1, rfl, hg1, hn, hu, _, _, ha, hc2, ?_, ?_, fun hx0 => ?_⟩⟩
    · split
      · omega
      · have h1 := Int.emod_nonneg (es m x i).2.1 (show (es m x (i + 1)).2.1 ≠ 0 by assumption)
        have h2 := Int.emod_lt_of_pos (es m x i).2.1 (show 0 < (es m x (i + 1)).2.1 by omega)
        omega
    · split
      · rw [Int.zero_mul]; omega
      · rename_i h0
        have hS := hE1.step (show 0 < (es m x (i + 1)).2.1 by omega)
        exact (eu_bounds hS).2.2.1
    · rw [if_neg hx0, if_neg hx0]
      exact ⟨rfl, rfl⟩
theorem loopR_ok (hm : 0 < m) (hx : 0 ≤ x ∧ x < m) (hb : m < pw 10) {s4 : Bool} {l5 : List Int} (h5 : LW l5) (h5l : l5.length ≤ 10) (h5v : sv s4 l5 = m) {s2 s3 : Bool} {l2 l3 : List Int} (i2 : Bg x s2 l2) (i3 : Bg 1 s3 l3) :
    Ret (loop (sparseref07_Rational_l2 s4 l5) (s4, l5, s2, l2, false, [], s3, l3)) (RL m x) := by
  refine ret_loop (Post := RL m x) 700 (fun k (s : Bool × List Int × Bool × List Int × Bool × List Int × Bool × List Int) =>
    go m x k ∧ (LW s.2.1 ∧ s.2.1.length ≤ 10 ∧ sv s.1 s.2.1 = (es m x k).1) ∧ Bg (es m x k).2.1 s.2.2.1 s.2.2.2.1 ∧ (Bg (es m x k).2.2.1 s.2.2.2.2.1 s.2.2.2.2.2.1 ∧ s.2.2.2.2.2.1.length ≤ 10) ∧ Bg (es m x k).2.2.2 s.2.2.2.2.2.2.1 s.2.2.2.2.2.2.2)
    ⟨fun j hj => absurd hj (by omega), ⟨h5, h5l, h5v⟩, i2, ⟨bg_zero, by show ([] : List Int).length ≤ 10; simp⟩, i3⟩ ?_ (by omega)
  rintro k ⟨sa, la, sb, lb, ss, ls, st, lt⟩ hk ⟨hg, ⟨a1, a2, a3⟩, hB, ⟨hs, hsl⟩, ht⟩
  simp only at a1 a2 a3 hB hs hsl ht
  have hE := es_eu hm hx k hg
  obtain ⟨b1, b2, b3, b4⟩ := eu_bounds hE
  have hr0 := hE.n1
  have lb10 := len10 hB hb (by omega) b2
  have lt10 := len10 ht hb b3.1 b3.2
  unfold sparseref07_Rational_l2
  simp only
  rw [twiceR_ok hB h5 h5v (by omega) (by omega), ret_if]
  refine ⟨fun hc => ?_, fun hc => ⟨_, rfl, k, ⟨hg, ?_⟩, hB, ht⟩⟩
  · have hc : m < 2 * ((es m x k).2.1 * (es m x k).2.1) := by revert hc; split <;> (try split) <;> omega
    have hpos := eu_pos hE hc hm
    have hrd := es_round hm hx hb hg hc
    have hg1 : go m x (k + 1) := by
      intro j hj
      by_cases e : j = k
      · subst e; exact hc
      · exact hg j (by omega)
    rw [ret_bind]
    refine (divmodR_bg (s := sa) (t := sb) a1 hB.1 (by omega) (by omega) (by rw [hB.sv]; omega)).mono ?_
    rintro ⟨qa, qb, ra, rb⟩ ⟨hq, hr⟩
    rw [a3, hB.sv] at hq hr
    simp only at hq hr ⊢
    have hq0 : 0 ≤ (es m x k).1 / (es m x k).2.1 := Int.ediv_nonneg (by have := hE.n0; omega) hr0
    have hq1 : (es m x k).1 / (es m x k).2.1 ≤ (es m x k).1 := Int.ediv_le_self _ (by have := hE.n0; omega)
    have lq10 := len10 hq hb (by omega) (by omega)
    rw [ret_bind]
    refine (mulR_bg (s := qa) (t := st) hq.1 ht.1 (by omega) (by omega)).mono fun g hg2 => ?_
    rw [hq.sv, ht.sv] at hg2
    have hgl : g.2.length ≤ 20 := by
      have h4 : pw 20 = pw 10 * pw 10 := pw_add 10 10
      generalize (es m x k).1 / (es m x k).2.1 = q at *
      generalize (es m x k).2.2.2 = u at *
      have h5 : q * u ≤ m * m := by
        have h6 : q * u ≤ q * m := Int.mul_le_mul_of_nonneg_left b3.2 hq0
        have h7 : q * m ≤ m * m := Int.mul_le_mul_of_nonneg_right (by omega) (by omega)
        omega
      have h6 : -(m * m) ≤ q * u := by
        have h6 : q * (-m) ≤ q * u := Int.mul_le_mul_of_nonneg_left b3.1 hq0
        have h7 : q * m ≤ m * m := Int.mul_le_mul_of_nonneg_right (by omega) (by omega)
        have h8 : q * (-m) = -(q * m) := by grind
        omega
      have h7 : m * m < pw 10 * pw 10 := by
        have h8 : m * m ≤ m * pw 10 := Int.mul_le_mul_of_nonneg_left (by omega) (by omega)
        have h9 : m * pw 10 < pw 10 * pw 10 := Int.mul_lt_mul_of_pos_right hb (pw_pos 10)
        omega
      exact hg2.len (by omega) (by omega)
    rw [ret_bind]
    refine (subR_bg (s := ss) (t := g.1) hs.1 hg2.1 (by omega) (by omega)).mono fun w hw => ?_
    rw [hs.sv, hg2.sv] at hw
    exact ⟨_, rfl, by omega, hg1, ⟨hB.1, lb10, hB.sv⟩, hr, ⟨ht, lt10⟩, hw⟩
  · refine Classical.byContradiction fun h => hc ?_
    rw [if_neg (by omega), if_pos (by omega)]; omega
end
end Km
/- Rational: the program's and the paper's; the law ModularRational. -/
namespace Km
open Sx Go M Vc Lm Dt
theorem negP_bg {s : Bool} {a : List Int} (ha : LW a) (hn : a.length ≤ 1000000) : Ret (integer_Neg s a) (fun r => Bg (- sv s a) r.1 r.2) := by
  unfold integer_Neg
  rw [clone_ok hn, obs, ret_bind]
  exact (big_bg (!s) ha hn).mono fun r hr => ⟨_, rfl, hr.cast (sv_not s a)⟩
theorem signRaw_ok {s : Bool} {l : List Int} (hl : LW l) (hn : l.length ≤ 1000) : sparseref01_Sign s l = some (if sv s l < 0 then -1 else if 0 < sv s l then 1 else 0) := by
  refine Ret.eq ?_
  unfold sparseref01_Sign
  rw [ret_bind]
  refine (normR_bg (s := s) hl (by omega)).mono ?_
  rintro ⟨t, m⟩ ⟨hB, _⟩
  simp only at hB ⊢
  have hz := lv_zero hB.1 hB.2.1
  have ha := hB.abs
  have hg := hB.neg
  have h0 := lv_nn hB.1
  rw [ret_if]
  refine ⟨fun h => ⟨_, rfl, ?_⟩, fun h => ?_⟩
  · have : lv m = 0 := hz.2 (List.eq_nil_of_length_eq_zero (by omega))
    rw [this] at ha
    split at ha <;> (rw [if_neg (by omega), if_neg (by omega)])
  · have : lv m ≠ 0 := fun h1 => h (by rw [hz.1 h1]; rfl)
    rw [ret_if]
    refine ⟨fun hs => ⟨_, rfl, ?_⟩, fun hs => ⟨_, rfl, ?_⟩⟩
    · rw [if_pos (hg.1 hs)]
    · have hv : ¬ sv s l < 0 := fun h1 => hs (hg.2 h1)
      rw [if_neg hv] at ha
      rw [if_neg hv, if_pos (by omega)]
theorem gcd_lt {R T : Int} (hT : T ≠ 0) : 0 < ((Int.gcd R T : Nat) : Int) ∧ ((Int.gcd R T : Nat) : Int) ≤ (if T < 0 then - T else T) := by
  have h1 : ((Int.gcd R T : Nat) : Int) ∣ (if T < 0 then - T else T) := by
    split
    · exact Int.dvd_neg.2 (Int.gcd_dvd_right ..)
    · exact Int.gcd_dvd_right ..
  have h2 := Int.le_of_dvd (by split <;> omega) h1
  have h3 : Int.gcd R T ≠ 0 := by
    intro h
    rw [Int.gcd_eq_zero_iff] at h
    exact hT h.2
  omega
section
variable {m : Int}
/-- what both answer for a fraction -/
def RA (m R T : Int) (o : Bool × List Int × Bool × List Int × Bool) : Prop :=
  if 2 * (T * T) ≤ m ∧ Int.gcd R T = 1 then Bg R o.1 o.2.1 ∧ Bg T o.2.2.1 o.2.2.2.1 ∧ o.2.2.2.2 = true else o = (false, [], false, [], false)
theorem ra_pos {R T : Int} {o : Bool × List Int × Bool × List Int × Bool} (hc : 2 * (T * T) ≤ m ∧ Int.gcd R T = 1) (h1 : Bg R o.1 o.2.1) (h2 : Bg T o.2.2.1 o.2.2.2.1) (h3 : o.2.2.2.2 = true) : RA m R T o := by
  unfold RA; rw [if_pos hc]; exact ⟨h1, h2, h3⟩
theorem ra_neg {R T : Int} (hc : ¬ (2 * (T * T) ≤ m ∧ Int.gcd R T = 1)) : RA m R T (false, [], false, [], false) := by
  unfold RA; rw [if_neg hc]
theorem j3P_ok (hb : m < pw 10) {s4 : Bool} {l5 : List Int} (h5 : LW l5) (h5l : l5.length ≤ 10) (h5v : sv s4 l5 = m) {R T : Int} {sr st : Bool} {lr lt : List Int} (hR : Bg R sr lr) (hT : Bg T st lt) (bR : -m ≤ R ∧ R ≤ m) (bT : -m ≤ T ∧ T ≤ m) (h0 : T ≠ 0) :
    Ret (modular_Rational_j3 s4 l5 sr lr st lt) (RA m R T) := by
  have lr10 := len10 hR hb bR.1 bR.2
  have lt10 := len10 hT hb bT.1 bT.2
  unfold modular_Rational_j3
  have hsg : sv st lt = T := hT.sv
  rw [sign_bg hT.1 (by omega), obs, hsg]
  have h1 : ¬ (if T < 0 then (-1 : Int) else if 0 < T then 1 else 0) = 0 := by split <;> (try split) <;> omega
  rw [if_neg h1, within_ok hT h5 h5v (by omega) (by omega), obs, obs]
  by_cases hw : 2 * (T * T) ≤ m
  · rw [decide_eq_true hw]
    simp only [Bool.not_true, Bool.false_eq_true, if_false]
    obtain ⟨g, hg0, hg⟩ := gcdP_ok (s := sr) (t := st) hR.1 hT.1 (by omega) (by omega)
    rw [hR.sv, hT.sv] at hg
    obtain ⟨f, hf0, hf⟩ := from_bg (n := 1) (by omega) (by omega)
    have hfl : f.2.length ≤ 1 := hf.len (by decide) (by decide)
    obtain ⟨g1, g2⟩ := gcd_lt (R := R) h0
    have hgl : g.2.length ≤ 10 := hg.len (by omega) (by split at g2 <;> omega)
    rw [hg0, obs, hf0, obs, cmp_bg (s := g.1) (t := f.1) hg.1 hf.1 (by omega) (by omega), obs, hg.sv, hf.sv, obs]
    by_cases h2 : Int.gcd R T = 1
    · have e1 : (if ((Int.gcd R T : Nat) : Int) < 1 then (-1 : Int) else if 1 < ((Int.gcd R T : Nat) : Int) then 1 else 0) = 0 := by rw [if_neg (by omega), if_neg (by omega)]
      rw [e1]
      simp only [decide_true, Bool.not_true, Bool.false_eq_true, if_false]
      exact ⟨_, rfl, ra_pos ⟨hw, h2⟩ hR hT rfl⟩
    · have e1 : (if ((Int.gcd R T : Nat) : Int) < 1 then (-1 : Int) else if 1 < ((Int.gcd R T : Nat) : Int) then 1 else 0) = 1 := by rw [if_neg (by omega), if_pos (by omega)]
      rw [e1, if_pos (by simp)]
      exact ⟨_, rfl, ra_neg fun h => h2 h.2⟩
  · rw [decide_eq_false hw]
    simp only [Bool.not_false, if_true, obs]
    exact ⟨_, rfl, ra_neg fun h => hw h.1⟩
theorem j3R_ok (hb : m < pw 10) {s4 : Bool} {l5 : List Int} (h5 : LW l5) (h5l : l5.length ≤ 10) (h5v : sv s4 l5 = m) {R T : Int} {sr st : Bool} {lr lt : List Int} (hR : Bg R sr lr) (hT : Bg T st lt) (bR : -m ≤ R ∧ R ≤ m) (bT : -m ≤ T ∧ T ≤ m) (h0 : T ≠ 0) :
    Ret (sparseref07_Rational_j3 s4 l5 sr lr st lt) (RA m R T) := by
  have lr10 := len10 hR hb bR.1 bR.2
  have lt10 := len10 hT hb bT.1 bT.2
  unfold sparseref07_Rational_j3
  rw [twiceR_ok hT h5 h5v (by omega) (by omega)]
  by_cases hw : 2 * (T * T) ≤ m
  · have h1 : ¬ (0 : Int) < (if 2 * (T * T) < m then (-1 : Int) else if m < 2 * (T * T) then 1 else 0) := by split <;> (try split) <;> omega
    rw [if_neg h1]
    obtain ⟨g, hg0, hg⟩ := gcdR_ok (s := sr) (t := st) hR.1 hT.1 (by omega) (by omega)
    rw [hR.sv, hT.sv] at hg
    obtain ⟨f, hf0, hf⟩ := fromR_bg (n := 1) (by omega) (by omega)
    have hfl : f.2.length ≤ 1 := hf.len (by decide) (by decide)
    obtain ⟨g1, g2⟩ := gcd_lt (R := R) h0
    have hgl : g.2.length ≤ 10 := hg.len (by omega) (by split at g2 <;> omega)
    rw [hg0, obs, hf0, obs, cmpR_bg (s := g.1) (t := f.1) hg.1 hf.1 (by omega) (by omega), obs, hg.sv, hf.sv, obs]
    by_cases h2 : Int.gcd R T = 1
    · have e1 : (if ((Int.gcd R T : Nat) : Int) < 1 then (-1 : Int) else if 1 < ((Int.gcd R T : Nat) : Int) then 1 else 0) = 0 := by rw [if_neg (by omega), if_neg (by omega)]
      rw [e1]
      simp only [decide_true, Bool.not_true, Bool.false_eq_true, if_false]
      rw [ret_bind]
      refine (normR_bg (s := sr) hR.1 (by omega)).mono fun u hu => ?_
      rw [ret_bind]
      refine (normR_bg (s := st) hT.1 (by omega)).mono fun v hv => ⟨_, rfl, ?_⟩
      have h8 := hu.1
      have h9 := hv.1
      rw [hR.sv] at h8
      rw [hT.sv] at h9
      exact ra_pos ⟨hw, h2⟩ h8 h9 rfl
    · have e1 : (if ((Int.gcd R T : Nat) : Int) < 1 then (-1 : Int) else if 1 < ((Int.gcd R T : Nat) : Int) then 1 else 0) = 1 := by rw [if_neg (by omega), if_pos (by omega)]
      rw [e1, if_pos (by simp)]
      exact ⟨_, rfl, ra_neg fun h => h2 h.2⟩
  · have h1 : (0 : Int) < (if 2 * (T * T) < m then (-1 : Int) else if m < 2 * (T * T) then 1 else 0) := by rw [if_neg (by omega), if_pos (by omega)]; omega
    rw [if_pos h1, obs, if_pos rfl]
    exact ⟨_, rfl, ra_neg fun h => hw h.1⟩
/-- the answer, told by the run of Euclid's algorithm -/
def RP (m x : Int) (o : Bool × List Int × Bool × List Int × Bool) : Prop :=
  ∃ k, fst m x k ∧ RA m (if (es m x k).2.2.2 < 0 then - (es m x k).2.1 else (es m x k).2.1) (if (es m x k).2.2.2 < 0 then - (es m x k).2.2.2 else (es m x k).2.2.2) o
theorem rationalP_ok (hm : 0 < m) (hb : m < pw 10) {s1 s4 : Bool} {l2 l5 : List Int} (h2 : LW l2) (h2l : l2.length ≤ 10) (h5 : LW l5) (h5l : l5.length ≤ 10) (h5v : sv s4 l5 = m) :
    Ret (modular_Rational s1 l2 s4 l5) (RP m (sv s1 l2 % m)) := by
  unfold modular_Rational
  have hx0 := Int.emod_nonneg (sv s1 l2) (show m ≠ 0 by omega)
  have hx1 := Int.emod_lt_of_pos (sv s1 l2) hm
  rw [sign_bg h5 (by omega), obs, h5v, if_neg (by rw [if_neg (by omega), if_pos hm]; omega), ret_bind]
  refine (divmod_bg (s := s1) (t := s4) h2 h5 (by omega) (by omega) (by rw [h5v]; omega)).mono fun r13 hr => ?_
  have hX := hr.2.1
  rw [h5v] at hX
  generalize sv s1 l2 % m = x at *
  rw [ret_bind]
  refine (normP_bg (s := s4) h5 (by omega)).mono fun r16 hr16 => ?_
  rw [h5v] at hr16
  rw [ret_bind]
  refine (from_bg (n := 1) (by omega) (by omega)).mono fun r24 hr24 => ?_
  rw [ret_bind]
  refine (loopP_ok hm ⟨hx0, hx1⟩ hb h5 h5l h5v hr16 hX hr24).mono ?_
  rintro ⟨sr, lr, st, lt⟩ ⟨k, hk, hR, hT⟩
  simp only at hR hT ⊢
  have hE := es_eu hm ⟨hx0, hx1⟩ k hk.1
  obtain ⟨b1, b2, b3, b4⟩ := eu_bounds hE
  have hn1 := hE.n1
  have ht0 := hE.t
  have lr10 := len10 hR hb (by omega) b2
  have lt10 := len10 hT hb b3.1 b3.2
  rw [sign_bg hT.1 (by omega), obs, hT.sv]
  generalize hRR : (es m x k).2.1 = R at *
  generalize hTT : (es m x k).2.2.2 = T at *
  rw [ret_if]
  refine ⟨fun hc => ?_, fun hc => ?_⟩
  · have hneg : T < 0 := by revert hc; split <;> (try split) <;> omega
    rw [ret_bind]
    refine (negP_bg (s := sr) hR.1 (by omega)).mono fun u hu => ?_
    rw [ret_bind]
    refine (negP_bg (s := st) hT.1 (by omega)).mono fun v hv => ?_
    rw [hR.sv] at hu
    rw [hT.sv] at hv
    refine (j3P_ok hb h5 h5l h5v hu hv ⟨by omega, by omega⟩ ⟨by omega, by omega⟩ (by omega)).mono fun o ho => ⟨k, hk, ?_⟩
    rw [hRR, hTT, if_pos hneg, if_pos hneg]; exact ho
  · have hneg : ¬ T < 0 := fun h => hc (by rw [if_pos h]; omega)
    refine (j3P_ok hb h5 h5l h5v hR hT ⟨by omega, by omega⟩ ⟨by omega, by omega⟩ (by omega)).mono fun o ho => ⟨k, hk, ?_⟩
    rw [hRR, hTT, if_neg hneg, if_neg hneg]; exact ho
theorem rationalR_ok (hm : 0 < m) (hb : m < pw 10) {s1 s4 : Bool} {l2 l5 : List Int} (h2 : LW l2) (h2l : l2.length ≤ 10) (h5 : LW l5) (h5l : l5.length ≤ 10) (h5v : sv s4 l5 = m) :
    Ret (sparseref07_Rational s1 l2 s4 l5) (RP m (sv s1 l2 % m)) := by
  unfold sparseref07_Rational
  have hx0 := Int.emod_nonneg (sv s1 l2) (show m ≠ 0 by omega)
  have hx1 := Int.emod_lt_of_pos (sv s1 l2) hm
  rw [signRaw_ok h5 (by omega), obs, h5v, if_neg (by rw [if_neg (by omega), if_pos hm]; omega), ret_bind]
  refine (divmodR_bg (s := s1) (t := s4) h2 h5 (by omega) (by omega) (by rw [h5v]; omega)).mono fun r13 hr => ?_
  have hX := hr.2
  rw [h5v] at hX
  generalize sv s1 l2 % m = x at *
  rw [ret_bind]
  refine (fromR_bg (n := 1) (by omega) (by omega)).mono fun r24 hr24 => ?_
  rw [ret_bind]
  refine (loopR_ok hm ⟨hx0, hx1⟩ hb h5 h5l h5v hX hr24).mono ?_
  rintro ⟨sr, lr, st, lt⟩ ⟨k, hk, hR, hT⟩
  simp only at hR hT ⊢
  have hE := es_eu hm ⟨hx0, hx1⟩ k hk.1
  obtain ⟨b1, b2, b3, b4⟩ := eu_bounds hE
  have hn1 := hE.n1
  have ht0 := hE.t
  have lr10 := len10 hR hb (by omega) b2
  have lt10 := len10 hT hb b3.1 b3.2
  rw [signRaw_ok hT.1 (by omega), obs, hT.sv]
  generalize hRR : (es m x k).2.1 = R at *
  generalize hTT : (es m x k).2.2.2 = T at *
  rw [ret_if]
  refine ⟨fun hc => ?_, fun hc => ?_⟩
  · have hneg : T < 0 := by revert hc; split <;> (try split) <;> omega
    rw [ret_bind]
    refine (negR_bg (s := sr) hR.1 (by omega)).mono fun u hu => ?_
    rw [ret_bind]
    refine (negR_bg (s := st) hT.1 (by omega)).mono fun v hv => ?_
    have hu := hu.1
    have hv := hv.1
    rw [hR.sv] at hu
    rw [hT.sv] at hv
    refine (j3R_ok hb h5 h5l h5v hu hv ⟨by omega, by omega⟩ ⟨by omega, by omega⟩ (by omega)).mono fun o ho => ⟨k, hk, ?_⟩
    rw [hRR, hTT, if_pos hneg, if_pos hneg]; exact ho
  · have hneg : ¬ T < 0 := fun h => hc (by rw [if_pos h]; omega)
    refine (j3R_ok hb h5 h5l h5v hR hT ⟨by omega, by omega⟩ ⟨by omega, by omega⟩ (by omega)).mono fun o ho => ⟨k, hk, ?_⟩
    rw [hRR, hTT, if_neg hneg, if_neg hneg]; exact ho
theorem RA.same {R T : Int} {o o' : Bool × List Int × Bool × List Int × Bool} (hb : m < pw 10) (bR : -m ≤ R ∧ R ≤ m) (bT : -m ≤ T ∧ T ≤ m) (h : RA m R T o) (h' : RA m R T o') :
    sparsekit_Big o.1 o.2.1 o'.1 o'.2.1 = some true ∧ sparsekit_Big o.2.2.1 o.2.2.2.1 o'.2.2.1 o'.2.2.2.1 = some true ∧ o.2.2.2.2 = o'.2.2.2.2 := by
  unfold RA at h h'
  split at h
  · rename_i hc
    rw [if_pos hc] at h'
    exact ⟨bigS_ok h.1 h'.1 (by have := len10 h.1 hb bR.1 bR.2; omega), bigS_ok h.2.1 h'.2.1 (by have := len10 h.2.1 hb bT.1 bT.2; omega), h.2.2.trans h'.2.2.symm⟩
  · rename_i hc
    rw [if_neg hc] at h'
    subst h h'
    have hz := bigS_ok bg_zero bg_zero (by simp)
    exact ⟨hz, hz, rfl⟩
end
theorem pp_max : PP 2147483647 := ⟨by omega, by omega, Nt.prm_max⟩
theorem place_ok (x : Int) {n : Int} (hn : 0 < n) (hm : n ≤ 1000000) : ∃ t, sparsekit_Place x n = some t ∧ 0 ≤ t ∧ t < n := by
  unfold sparsekit_Place
  have e : wc .u64 n = n := wc_u64_in ⟨by omega, by omega⟩
  have h0 : 0 ≤ wc .u64 x := by rw [wc_u64]; omega
  rw [e, wr_nn h0 hn, obs]
  have h1 := mod_rng (wc .u64 x) hn
  exact ⟨_, rfl, by rw [wc_i64_in ⟨by omega, by omega⟩]; exact h1⟩
/-- a fraction modulo the prime is recovered -/
theorem recover {num den x : Int} {o : Bool × List Int × Bool × List Int × Bool} (hn : -1000 ≤ num ∧ num ≤ 1000) (hd : 1 ≤ den ∧ den ≤ 1000) (hg : Int.gcd num den = 1) (hx : 0 ≤ x ∧ x < 2147483647) (hc : (2147483647 : Int) ∣ num - den * x) (h : RP 2147483647 x o) : Bg num o.1 o.2.1 ∧ Bg den o.2.2.1 o.2.2.2.1 ∧ o.2.2.2.2 = true := by
  obtain ⟨k, hk, hA⟩ := h
  have hE := es_eu (by omega) hx k hk.1
  have hs0 : 2147483647 < 2 * ((es 2147483647 x k).1 * (es 2147483647 x k).1) := by
    cases k with
    | zero => show (2147483647 : Int) < 2 * (2147483647 * 2147483647); decide
    | succ k => exact hk.1 k (by omega)
  have hr := Nt.recon Nt.prm_max hE hs0 hk.2 hg hn hd hc
  have hd2 : den * den ≤ 1000 * 1000 := Int.mul_le_mul (by omega) (by omega) (by omega) (by omega)
  have hfin : RA 2147483647 num den o := by
    rcases hr with ⟨h1, h2⟩ | ⟨h1, h2⟩
    · rw [h1, h2, if_neg (by omega), if_neg (by omega)] at hA; exact hA
    · rw [h1, h2, if_pos (by omega), if_pos (by omega), Int.neg_neg, Int.neg_neg] at hA; exact hA
  unfold RA at hfin
  rw [if_pos ⟨by omega, hg⟩] at hfin
  exact hfin
theorem modularRational_true (s1 : Bool) (l2 : List Int) (s4 : Bool) (l5 : List Int) (num den p : Int) (h2 : LW l2) (h5 : LW l5) : sparselaw07_ModularRational s1 l2 s4 l5 num den p = some true := by
  refine Ret.eq ?_
  unfold sparselaw07_ModularRational sparsekit_Slim
  rw [obs]
  by_cases hs : (l2.length : Int) ≤ 10 ∧ (l5.length : Int) ≤ 10
  · rw [decide_eq_true hs.1, if_pos rfl, obs, decide_eq_true hs.2, obs, if_neg (by simp)]
    have hl2 : l2.length ≤ 10 := by omega
    have hl5 : l5.length ≤ 10 := by omega
    have hb5 := lt_pw h5 hl5
    have hnn5 := lv_nn h5
    -- both sides agree
    have both : ∃ o o', modular_Rational s1 l2 s4 l5 = some o ∧ sparseref07_Rational s1 l2 s4 l5 = some o' ∧ sparsekit_Big o.1 o.2.1 o'.1 o'.2.1 = some true ∧ sparsekit_Big o.2.2.1 o.2.2.2.1 o'.2.2.1 o'.2.2.2.1 = some true ∧ o.2.2.2.2 = o'.2.2.2.2 := by
      by_cases hm : 0 < sv s4 l5
      · have hb : sv s4 l5 < pw 10 := by unfold sv at hm ⊢; split <;> omega
        obtain ⟨o, ho, k, hk, hA⟩ := rationalP_ok (s1 := s1) hm hb h2 hl2 h5 hl5 rfl
        obtain ⟨o', ho', k', hk', hA'⟩ := rationalR_ok (s1 := s1) hm hb h2 hl2 h5 hl5 rfl
        obtain rfl := fst_uniq hk hk'
        have hx0 := Int.emod_nonneg (sv s1 l2) (show sv s4 l5 ≠ 0 by omega)
        have hx1 := Int.emod_lt_of_pos (sv s1 l2) hm
        have hE := es_eu hm ⟨hx0, hx1⟩ k hk.1
        obtain ⟨b1, b2, b3, b4⟩ := eu_bounds hE
        have hn1 := hE.n1
        obtain ⟨e1, e2, e3⟩ := RA.same hb (by split <;> omega) (by split <;> omega) hA hA'
        exact ⟨o, o', ho, ho', e1, e2, e3⟩
      · have hle : (if sv s4 l5 < 0 then (-1 : Int) else if 0 < sv s4 l5 then 1 else 0) ≤ 0 := by split <;> (try split) <;> omega
        have hz := bigS_ok bg_zero bg_zero (by simp)
        refine ⟨(false, [], false, [], false), (false, [], false, [], false), ?_, ?_, hz, hz, rfl⟩
        · unfold modular_Rational
          rw [sign_bg h5 (by omega), obs, if_pos hle]
        · unfold sparseref07_Rational
          rw [signRaw_ok h5 (by omega), obs, if_pos hle]
    obtain ⟨o, o', ho, ho', e1, e2, e3⟩ := both
    rw [ho, obs, ho', obs, e1, obs, if_pos rfl, e2, obs, obs, e3, if_neg (by simp)]
    -- the fraction
    obtain ⟨a, ha, a0, a1⟩ := place_ok num (n := 2001) (by omega) (by omega)
    obtain ⟨b, hb, b0, b1⟩ := place_ok den (n := 1000) (by omega) (by omega)
    have eA : ws .i64 a 1000 = a - 1000 := ws_i (by omega) (by omega)
    have eB : wa .i64 1 b = 1 + b := wa_i (by omega) (by omega)
    rw [ha, obs, hb, obs, eA, eB]
    generalize hA : a - 1000 = A at *
    generalize hD : 1 + b = D at *
    have hAr : -1000 ≤ A ∧ A ≤ 1000 := by omega
    have hDr : 1 ≤ D ∧ D ≤ 1000 := by omega
    rw [ret_bind]
    refine (fromR_bg (n := A) (by omega) (by omega)).mono fun fa hfa => ?_
    have hfal : fa.2.length ≤ 1 := hfa.len (by rw [show pw 1 = B by simp [pw]]; unfold B; omega) (by rw [show pw 1 = B by simp [pw]]; unfold B; omega)
    rw [ret_bind]
    refine (fromR_bg (n := D) (by omega) (by omega)).mono fun fd hfd => ?_
    have hfdl : fd.2.length ≤ 1 := hfd.len (by rw [show pw 1 = B by simp [pw]]; unfold B; omega) (by rw [show pw 1 = B by simp [pw]]; unfold B; omega)
    rw [ret_bind]
    refine (gcdR_ok (s := fa.1) (t := fd.1) hfa.1 hfd.1 (by omega) (by omega)).mono fun g hg => ?_
    rw [hfa.sv, hfd.sv] at hg
    obtain ⟨g0, g1⟩ := gcd_lt (R := A) (T := D) (by omega)
    rw [if_neg (by omega)] at g1
    have hgs : g.1 = false := by
      cases h : g.1 with
      | false => rfl
      | true => have := hg.neg.1 h; omega
    have hgi : sparseref01_Int g.1 g.2 = some (((Int.gcd A D : Nat) : Int), true) := by
      rw [hgs]
      refine intR_ok (by omega) (by unfold B; omega) hg.1 hg.2.1 ?_
      rw [hg.abs, if_neg (by omega)]
    have dA : ((Int.gcd A D : Nat) : Int) ∣ A := Int.gcd_dvd_left ..
    have dD : ((Int.gcd A D : Nat) : Int) ∣ D := Int.gcd_dvd_right ..
    have hcop : Int.gcd (A / ((Int.gcd A D : Nat) : Int)) (D / ((Int.gcd A D : Nat) : Int)) = 1 := by
      refine Int.gcd_ediv_gcd_ediv_gcd ?_
      omega
    generalize hG : ((Int.gcd A D : Nat) : Int) = G at *
    obtain ⟨u, hu⟩ := dA
    obtain ⟨v, hv⟩ := dD
    have qA : A / G = u := by rw [hu, Int.mul_ediv_cancel_left _ (by omega)]
    have qD : D / G = v := by rw [hv, Int.mul_ediv_cancel_left _ (by omega)]
    rw [qA, qD] at hcop
    have hv1 : 1 ≤ v := by
      refine Classical.byContradiction fun hc => ?_
      have : G * v ≤ G * 0 := Int.mul_le_mul_of_nonneg_left (by omega) (by omega)
      omega
    have hv2 : v ≤ D := by
      have : 1 * v ≤ G * v := Int.mul_le_mul_of_nonneg_right (by omega) (by omega)
      omega
    have hu1 : -1000 ≤ u ∧ u ≤ 1000 := by
      constructor
      · refine Classical.byContradiction fun hc => ?_
        have : G * u ≤ 1 * u := Int.mul_le_mul_of_nonpos_right (by omega) (by omega)
        omega
      · refine Classical.byContradiction fun hc => ?_
        have : 1 * u ≤ G * u := Int.mul_le_mul_of_nonneg_right (by omega) (by omega)
        omega
    have wA : wq .i64 A G = some u := by
      unfold wq
      rw [if_neg (by omega), hu, Int.mul_tdiv_cancel_left _ (by omega)]
      congr 1
      exact IntWalk.i64_in _ ⟨by omega, by omega⟩
    have wD : wq .i64 D G = some v := by
      unfold wq
      rw [if_neg (by omega), hv, Int.mul_tdiv_cancel_left _ (by omega)]
      congr 1
      exact IntWalk.i64_in _ ⟨by omega, by omega⟩
    rw [hgi, obs]
    simp only
    rw [wA, obs, wD, obs]
    have hvm : v % 2147483647 = v := Int.emod_eq_of_lt (by omega) (by omega)
    obtain ⟨i1, i2, i3⟩ := iv_ok pp_max (a := v) ⟨by omega, by omega⟩
    have hInv : modular_Inverse v 2147483647 = some (iv 2147483647 v, 0) := by
      unfold modular_Inverse
      rw [pp_true pp_max, obs, if_pos rfl, mod_ok (by omega) (by omega), obs, hvm, if_neg (by omega), obs, i1, obs]
    generalize iv 2147483647 v = f at *
    rw [hInv, obs, ret_bind]
    have hp1 : pw 1 = 4294967296 := by decide
    refine (from_bg (n := u) (by omega) (by omega)).mono fun fu hfu => ?_
    have lfu : fu.2.length ≤ 1 := hfu.len (by omega) (by omega)
    rw [ret_bind]
    refine (from_bg (n := f) (by omega) (by omega)).mono fun ff hff => ?_
    have lff : ff.2.length ≤ 1 := hff.len (by omega) (by omega)
    rw [ret_bind]
    refine (mul_bg (s := fu.1) (t := ff.1) hfu.1 hff.1 (by omega) (by omega)).mono fun g' hg' => ?_
    rw [hfu.sv, hff.sv] at hg'
    have hp10 : (2147483647 : Int) < pw 10 := by decide
    have hp2 : pw 2 = 18446744073709551616 := by decide
    have hg'l : g'.2.length ≤ 2 := by
      have h6 : u * f ≤ 1000 * 2147483647 := by
        have h7 : u * f ≤ 1000 * f := Int.mul_le_mul_of_nonneg_right hu1.2 i2.1
        omega
      have h7 : -(1000 * 2147483647) ≤ u * f := by
        have h8 : (-1000) * f ≤ u * f := Int.mul_le_mul_of_nonneg_right hu1.1 i2.1
        omega
      exact hg'.len (by omega) (by omega)
    rw [ret_bind]
    refine (from_bg (n := 2147483647) (by omega) (by omega)).mono fun fm hfm => ?_
    have lfm : fm.2.length ≤ 1 := hfm.len (by omega) (by omega)
    rw [ret_bind]
    refine (rationalP_ok (m := 2147483647) (s1 := g'.1) (s4 := fm.1) (by omega) hp10 hg'.1 (by omega) hfm.1 (by omega) hfm.sv).mono fun z hz => ?_
    rw [hg'.sv] at hz
    have hx := mod_rng (u * f) (show (0 : Int) < 2147483647 by omega)
    have hdv : (2147483647 : Int) ∣ u - v * (u * f % 2147483647) := by
      have h8 := Int.mul_ediv_add_emod (u * f) 2147483647
      have h9 := Int.mul_ediv_add_emod (v * f) 2147483647
      refine ⟨v * (u * f / 2147483647) - u * (v * f / 2147483647), ?_⟩
      generalize u * f / 2147483647 = c at *
      generalize u * f % 2147483647 = d at *
      generalize v * f / 2147483647 = c' at *
      rw [i3] at h9
      have e5 : d = u * f - 2147483647 * c := by omega
      have e6 : v * f = 2147483647 * c' + 1 := by omega
      rw [e5]
      have e7 : u - v * (u * f - 2147483647 * c) = u - u * (v * f) + v * (2147483647 * c) := by grind
      rw [e7, e6]
      grind
    obtain ⟨z1, z2, z3⟩ := recover hu1 ⟨hv1, by omega⟩ hcop hx hdv hz
    obtain ⟨ru, hru, hruB⟩ := fromR_bg (n := u) (by omega) (by omega)
    obtain ⟨rv, hrv, hrvB⟩ := fromR_bg (n := v) (by omega) (by omega)
    have lz1 : z.2.1.length ≤ 1 := z1.len (by omega) (by omega)
    have lz2 : z.2.2.2.1.length ≤ 1 := z2.len (by omega) (by omega)
    rw [z3, if_pos rfl, obs, if_pos rfl, hru, obs, bigS_ok z1 hruB (by omega), obs, obs, if_pos rfl, hrv, obs, bigS_ok z2 hrvB (by omega), obs, obs, if_pos rfl, awake07, obs, obs]
    exact ⟨_, rfl, rfl⟩
  · have hb : ∀ {β : Type} (f : Bool → Option β), ((if decide ((l2.length : Int) ≤ 10) = true then (some (decide ((l5.length : Int) ≤ 10))).bind fun r17 => some (!r17) else some true).bind f) = f true := by
      intro β f
      by_cases h1 : (l2.length : Int) ≤ 10
      · rw [if_pos (decide_eq_true h1), obs, decide_eq_false fun h => hs ⟨h1, h⟩, obs]; rfl
      · rw [if_neg (by simpa using h1), obs]
    rw [hb, if_pos rfl, awake07, obs]
    exact ⟨_, rfl, rfl⟩
theorem wf_u32 {n : Int} (h : Wf .u32 n) : 0 ≤ n ∧ n < B := by
  simp only [Wf, Lit.wf, Bool.and_eq_true, decide_eq_true_eq] at h
  have e : IntKind.max .u32 = 4294967295 := by decide
  have f : IntKind.min .u32 = 0 := by decide
  unfold B
  omega
theorem modularRational_t (s1 : Bool) (l2 : List Int) (s4 : Bool) (l5 : List Int) (num den p : Int) (h2 : okL (Wf .u32) l2) (h5 : okL (Wf .u32) l5) (_ : Wf .i64 num) (_ : Wf .i64 den) (_ : Wf .i64 p) : sparselaw07_ModularRational s1 l2 s4 l5 num den p = some true := modularRational_true s1 l2 s4 l5 num den p (fun x hx => wf_u32 (h2.2 x hx)) (fun x hx => wf_u32 (h5.2 x hx))
end Km
