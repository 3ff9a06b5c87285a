/- The law ModularSolves. -/
import Derived.Test.YtnfamnfdndaekaaGreatDoorQgF
namespace Km
open Sx Go M Vc Dt
set_option linter.unusedVariables false
set_option linter.unusedSimpArgs false
set_option maxHeartbeats 4000000
theorem awake07 : sparselaw07_awake = some true := by kernel_rfl
theorem placeN (x : Int) (m : Nat) (h0 : 0 < m) (h1 : m < 1000000) : ∃ z : Nat, sparsekit_Place x (m : Int) = some (z : Int) ∧ z < m := by
  have hx : 0 ≤ wc .u64 x ∧ wc .u64 x < 18446744073709551616 := by unfold wc; rw [IntKind.wrap_u64]; omega
  have hm : wc .u64 (m : Int) = (m : Int) := IntWalk.u64_in _ (by omega)
  have h2 : (wc .u64 x).tmod (m : Int) = (wc .u64 x) % (m : Int) := Int.tmod_eq_emod_of_nonneg hx.1
  have h3 := Int.emod_nonneg (wc .u64 x) (show (m : Int) ≠ 0 by omega)
  have h4 := Int.emod_lt_of_pos (wc .u64 x) (show (0 : Int) < m by omega)
  unfold sparsekit_Place wr
  rw [hm, if_neg (by omega), h2]
  refine ⟨((wc .u64 x) % (m : Int)).toNat, ?_, by omega⟩
  show some (wc .i64 _) = _
  have h5 : wc .i64 ((wc .u64 x) % (m : Int)) = (wc .u64 x) % (m : Int) := IntWalk.i64_in _ (by omega)
  rw [h5]; congr 1; omega
theorem prm_small {p : Nat} (h2 : 2 ≤ p) (h : (List.range p).all (fun d => decide (d < 2) || decide (p % d ≠ 0)) = true) : Nt.Prm p := by
  refine Nt.Prm.of h2 fun d h3 h4 h5 => ?_
  have hd : d < p := by
    have : d * 2 ≤ d * d := Nat.mul_le_mul_left d h3
    omega
  have := List.all_eq_true.1 h d (List.mem_range.2 hd)
  simp only [Bool.or_eq_true, decide_eq_true_eq] at this
  rcases this with h6 | h6
  · omega
  · exact h6 (Nat.mod_eq_zero_of_dvd h5)
theorem prime_in (x : Int) : ∃ p, sparselaw07_prime x = some p ∧ PP p := by
  obtain ⟨z, h1, h2⟩ := placeN x 10 (by omega) (by omega)
  unfold sparselaw07_prime
  rw [show (10 : Int) = ((10 : Nat) : Int) from rfl, h1, obs]
  have hz : z = 0 ∨ z = 1 ∨ z = 2 ∨ z = 3 ∨ z = 4 ∨ z = 5 ∨ z = 6 ∨ z = 7 ∨ z = 8 ∨ z = 9 := by omega
  rcases hz with rfl | rfl | rfl | rfl | rfl | rfl | rfl | rfl | rfl | rfl
  · exact ⟨2, rfl, by omega, by omega, prm_small (by decide) (by decide)⟩
  · exact ⟨3, rfl, by omega, by omega, prm_small (by decide) (by decide)⟩
  · exact ⟨5, rfl, by omega, by omega, prm_small (by decide) (by decide)⟩
  · exact ⟨7, rfl, by omega, by omega, prm_small (by decide) (by decide)⟩
  · exact ⟨11, rfl, by omega, by omega, prm_small (by decide) (by decide)⟩
  · exact ⟨13, rfl, by omega, by omega, prm_small (by decide) (by decide)⟩
  · exact ⟨101, rfl, by omega, by omega, Nt.prm_101⟩
  · exact ⟨65537, rfl, by omega, by omega, Nt.prm_fer⟩
  · exact ⟨1000003, rfl, by omega, by omega, Nt.prm_mil⟩
  · exact ⟨2147483647, rfl, by omega, by omega, Nt.prm_max⟩
theorem square_tb {l : List Int} (n : Nat) (hn : n ≤ 5) (hl : l.length ≤ 25) : Ret (sparselaw07_square l (n : Int)) (fun T => Tb T n n (fun r c => l.getD (n * r + c) 0)) := by
  unfold sparselaw07_square
  rw [ret_bind]
  refine (ret_loop (Post := fun T => Tb T n n (fun r c => l.getD (n * r + c) 0)) n (fun k (s : List (List Int) × Int) => s.2 = (k : Int) ∧ Tb s.1 k n (fun r c => l.getD (n * r + c) 0)) ⟨rfl, rfl, fun r h => absurd h (by omega)⟩ ?_ (by omega)).mono fun T h => ⟨_, rfl, h⟩
  rintro k ⟨T, _⟩ hk ⟨rfl, h⟩
  unfold sparselaw07_square_l9
  simp only at h ⊢
  rw [ret_if]
  refine ⟨fun hlt => ?_, fun _ => ⟨_, rfl, by show Tb T n n _; have e : k = n := (by omega); exact e ▸ h⟩⟩
  have hkn : k < n := by omega
  rw [ret_bind]
  refine (ret_loop (Post := fun o => Ln o n (fun c => l.getD (n * k + c) 0)) n (fun j (s : List Int × Int) => s.2 = (j : Int) ∧ Ln s.1 j (fun c => l.getD (n * k + c) 0)) ⟨rfl, rfl, fun c h => absurd h (by omega)⟩ ?_ (by omega)).mono fun o ho => ?_
  · rintro j ⟨o, _⟩ hj ⟨rfl, ho⟩
    unfold sparselaw07_square_l12 sparselaw07_square_j13
    simp only at ho ⊢
    rw [ret_if]
    refine ⟨fun hlt => ?_, fun _ => ⟨_, rfl, by show Ln o n _; have e : j = n := (by omega); exact e ▸ ho⟩⟩
    have hjn : j < n := by omega
    have hnk : n * k ≤ 5 * 5 := Nat.mul_le_mul hn (by omega)
    have e1 : wa .i64 (wm .i64 (n : Int) (k : Int)) (j : Int) = ((n * k + j : Nat) : Int) := by
      have e2 : (n : Int) * (k : Int) = ((n * k : Nat) : Int) := by simp
      rw [wm_i (by rw [e2]; omega) (by rw [e2]; omega), e2, wa_i (by omega) (by omega)]; omega
    have push : ∀ x, x = l.getD (n * k + j) 0 → Ret ((app o [x]).bind fun x117 => some (Sum.inl (β := List Int) (x117, wa .i64 (j : Int) 1))) (VQ (fun t' : List Int × Int => j < n ∧ t'.2 = ((j + 1 : Nat) : Int) ∧ Ln t'.1 (j + 1) (fun c => l.getD (n * k + c) 0)) (fun o => Ln o n (fun c => l.getD (n * k + c) 0))) := by
      rintro x rfl
      rw [ret_bind, ret_app]
      refine ⟨by rw [ho.1]; simp only [List.length_cons, List.length_nil]; omega, _, rfl, hjn, by show wa .i64 (j : Int) 1 = _; rw [wa_i (by omega) (by omega)]; rfl, by show (o ++ [_]).length = j + 1; rw [List.length_append, ho.1]; rfl, fun c hc => ?_⟩
      show (o ++ [_])[c]? = _
      by_cases e : c = j
      · subst e; rw [List.getElem?_append_right (by rw [ho.1]; omega), ho.1, Nat.sub_self]; rfl
      · rw [List.getElem?_append_left (by rw [ho.1]; omega), ho.2 c (by omega)]
    rw [e1, ret_if]
    refine ⟨fun hin => ?_, fun hout => ?_⟩
    · rw [ret_bind, ret_get]
      refine ⟨by omega, hin, fun x hx => push x ?_⟩
      rw [Int.toNat_natCast] at hx
      rw [List.getD_eq_getElem?_getD, hx]; rfl
    · refine push 0 ?_
      rw [List.getD_eq_getElem?_getD, List.getElem?_eq_none (by omega)]; rfl
  · rw [ret_bind, ret_app]
    refine ⟨by rw [h.1]; simp only [List.length_cons, List.length_nil]; omega, _, rfl, by omega, by show wa .i64 (k : Int) 1 = _; rw [wa_i (by omega) (by omega)]; rfl, by show (T ++ [_]).length = k + 1; rw [List.length_append, h.1]; rfl, fun r hr => ?_⟩
    show ∃ l', (T ++ [o])[r]? = some l' ∧ _
    by_cases e : r = k
    · subst e; exact ⟨o, by rw [List.getElem?_append_right (by rw [h.1]; omega), h.1, Nat.sub_self]; rfl, ho⟩
    · obtain ⟨l', h1, h2⟩ := h.2 r (by omega)
      exact ⟨l', by rw [List.getElem?_append_left (by rw [h.1]; omega)]; exact h1, h2⟩
theorem ints_eq {n : Nat} {l m : List Int} {f : Nat → Int} (hl : Ln l n f) (hm : Ln m n f) : l = m := by
  apply List.ext_getElem?
  intro c
  rcases Nat.lt_or_ge c n with h | h
  · rw [hl.2 c h, hm.2 c h]
  · rw [List.getElem?_eq_none (by rw [hl.1]; exact h), List.getElem?_eq_none (by rw [hm.1]; exact h)]
theorem ints_self {l : List Int} (hl : l.length ≤ 1000) : sparsekit_Ints l l = some true := by
  refine Ret.eq ?_
  unfold sparsekit_Ints
  rw [ret_if]
  refine ⟨fun _ => ?_, fun h => absurd rfl h⟩
  rw [ret_bind]
  refine (ret_loop (Post := fun o => o = .inl ()) l.length (fun k i => i = (k : Int)) rfl ?_ (by omega)).mono ?_
  · rintro k i hk rfl
    unfold sparsekit_Ints_l1
    rw [ret_if]
    refine ⟨fun hlt => ?_, fun _ => ⟨_, rfl, rfl⟩⟩
    rw [ret_bind, ret_get]
    refine ⟨by omega, hlt, fun x hx => ?_⟩
    rw [ret_bind, ret_get]
    refine ⟨by omega, hlt, fun y hy => ?_⟩
    obtain rfl := Option.some.inj (hx.symm.trans hy)
    rw [if_pos rfl]
    refine ⟨_, rfl, ?_⟩
    rw [wa_i (by omega) (by omega)]
    exact ⟨by omega, by simp⟩
  · rintro _ rfl
    exact ⟨_, rfl, rfl⟩
theorem rhs_ok {p : Int} (hP : PP p) {b : List Int} {z : Nat} (hz : z < 5) : Ret ((mkL 0 (wa .i64 1 (z : Int))).bind fun x78 => loop (sparselaw07_ModularSolves_l15 (z : Int) b p) (x78, 0)) (fun o => ∃ g : Nat → Int, Ln o (z + 1) g ∧ ∀ c, c < z + 1 → 0 ≤ g c ∧ g c < p) := by
  have hp := hP.two
  have e1 : wa .i64 1 (z : Int) = ((z + 1 : Nat) : Int) := by rw [wa_i (by omega) (by omega)]; omega
  rw [e1, ret_bind, ret_mkL]
  refine ⟨by omega, by omega, ?_⟩
  rw [Int.toNat_natCast]
  refine ret_loop (z + 1) (fun k (s : List Int × Int) => s.2 = (k : Int) ∧ ∃ g : Nat → Int, Ln s.1 (z + 1) g ∧ ∀ c, c < z + 1 → 0 ≤ g c ∧ g c < p) ⟨rfl, fun _ => 0, ⟨List.length_replicate .., fun c hc => by rw [List.getElem?_replicate, if_pos hc]⟩, fun c _ => ⟨by show (0 : Int) ≤ 0; omega, by show (0 : Int) < p; omega⟩⟩ ?_ (by omega)
  rintro k ⟨o, _⟩ hk ⟨rfl, g, h1, h2⟩
  unfold sparselaw07_ModularSolves_l15
  simp only at h1 ⊢
  rw [e1, ret_if]
  refine ⟨fun hc => ?_, fun _ => ⟨_, rfl, g, h1, h2⟩⟩
  simp only [Bool.and_eq_true, decide_eq_true_eq] at hc
  rw [ret_bind, ret_get]
  refine ⟨by omega, hc.2, fun x _ => ?_⟩
  rw [ref_mod, mod_ok (by omega) hP.max, obs, ret_bind, ret_set, Int.toNat_natCast]
  refine ⟨by omega, by rw [h1.1]; omega, _, rfl, by omega, by show wa .i64 (k : Int) 1 = _; rw [wa_i (by omega) (by omega)]; rfl, _, h1.set (show k < z + 1 by omega) _, fun c hc' => ?_⟩
  split
  · exact mod_rng _ (by omega)
  · exact h2 c hc'
theorem l22_ok {v : List Int} {e : Int} {n : Nat} {f : Nat → Int} (hv : Ln v n f) (hn : n ≤ 1000) {c0 : Nat} (hc : c0 < n) (h1 : f c0 = 1) : loop (sparselaw07_ModularSolves_l22 (v, e)) (false, 0) = some true := by
  refine Ret.eq ?_
  refine ret_loop n (fun k (s : Bool × Int) => s.2 = (k : Int) ∧ (c0 < k → s.1 = true)) ⟨rfl, fun h => absurd h (by omega)⟩ ?_ (by omega)
  rintro k ⟨s, _⟩ hk ⟨rfl, h⟩
  unfold sparselaw07_ModularSolves_l22
  simp only at h ⊢
  rw [ret_if, hv.1]
  refine ⟨fun hlt => ?_, fun _ => ⟨_, rfl, h (by omega)⟩⟩
  have nxt : wa .i64 (k : Int) 1 = ((k + 1 : Nat) : Int) := by rw [wa_i (by omega) (by omega)]; rfl
  rw [ret_bind, ret_if]
  refine ⟨fun hs => ?_, fun hs => ?_⟩
  · exact ⟨_, rfl, _, rfl, by omega, nxt, fun _ => rfl⟩
  · rw [ret_bind]; refine hv.get (show k < n by omega) ?_
    refine ⟨_, rfl, _, rfl, by omega, nxt, fun hc0 => ?_⟩
    rcases Nat.lt_or_ge c0 k with h2 | h2
    · exact absurd (h h2) hs
    · have e : c0 = k := by omega
      show (!(decide (f k = 0))) = true
      rw [← e, h1]; rfl
theorem l25_ok {v : List Int} {n : Nat} (hv : Ln v n (fun _ => 0)) (hn : n ≤ 1000) : loop (sparselaw07_ModularSolves_l25 v) (true, 0) = some true := by
  refine Ret.eq ?_
  refine ret_loop n (fun k (s : Bool × Int) => s.2 = (k : Int) ∧ s.1 = true) ⟨rfl, rfl⟩ ?_ (by omega)
  rintro k ⟨s, _⟩ hk ⟨rfl, h⟩
  simp only at h
  subst h
  unfold sparselaw07_ModularSolves_l25
  simp only
  rw [ret_if, hv.1]
  refine ⟨fun hlt => ?_, fun _ => ⟨_, rfl, rfl⟩⟩
  rw [ret_bind, if_pos trivial, ret_bind]; refine hv.get (show k < n by omega) ?_
  exact ⟨_, rfl, _, rfl, by omega, by show wa .i64 (k : Int) 1 = _; rw [wa_i (by omega) (by omega)]; rfl, rfl⟩
theorem modularSolves_true (l b : List Int) (n cut p : Int) : sparselaw07_ModularSolves l b n cut p = some true := by
  refine Ret.eq ?_
  unfold sparselaw07_ModularSolves
  rw [ret_if]
  refine ⟨fun _ => ?_, fun hlen => ?_⟩
  · rw [awake07, obs]; exact ⟨_, rfl, rfl⟩
  simp only [Bool.or_eq_true, decide_eq_true_eq, not_or] at hlen
  obtain ⟨q, hq, hP⟩ := prime_in p
  obtain ⟨z, hz, hz5⟩ := placeN n 5 (by omega) (by omega)
  have hp := hP.two
  have e1 : wa .i64 1 (z : Int) = ((z + 1 : Nat) : Int) := by rw [wa_i (by omega) (by omega)]; omega
  rw [hq, obs, show (5 : Int) = ((5 : Nat) : Int) from rfl, hz, obs, e1, ret_bind]
  refine (square_tb (l := l) (z + 1) (by omega) (by omega)).mono fun S hS => ?_
  obtain ⟨y, hy, hy2⟩ := placeN cut (z + 1) (by omega) (by omega)
  have e2 : wa .i64 1 (y : Int) = ((y + 1 : Nat) : Int) := by rw [wa_i (by omega) (by omega)]; omega
  rw [hy, obs, e2, ret_bind, ret_sli]
  refine ⟨by omega, by omega, by rw [hS.1]; omega, ?_⟩
  rw [Int.toNat_natCast, show (0 : Int).toNat = 0 from rfl, List.drop_zero]
  have hT : Tb (S.take (y + 1)) (y + 1) (z + 1) (fun r c => l.getD ((z + 1) * r + c) 0) := by
    refine ⟨by rw [List.length_take, hS.1]; omega, fun r hr => ?_⟩
    obtain ⟨l', h1, h2⟩ := hS.2 r (by omega)
    exact ⟨l', by rw [List.getElem?_take, if_pos hr]; exact h1, h2⟩
  generalize hTT : S.take (y + 1) = T at hT
  generalize (fun r c => l.getD ((z + 1) * r + c) 0 : Mx) = X at hT
  obtain ⟨R, o, hR, hRT, hEo, k, B, col, hE⟩ := ech_ex hP (by omega) (by omega) (by omega) hT
  have hkz := hE.2.1.kc
  have hky := hE.2.1.kn
  have hpl : (o.2.1.length : Int) = (k : Int) := by rw [hE.2.2.2.1.1]
  -- the part behind the kernel
  have rest : Ret (sparselaw07_ModularSolves_j12 T (z : Int) b q ((o.2.1.length : Int), 0)) (fun x => x = true) := by
    unfold sparselaw07_ModularSolves_j12
    rw [hT.1, e1, hpl, ret_if]
    refine ⟨fun _ => by rw [awake07, obs]; exact ⟨_, rfl, rfl⟩, fun hge => ?_⟩
    have hyz : y = z := by omega
    subst hyz
    have hr := rhs_ok hP (b := b) hz5
    rw [e1, ret_bind] at hr
    rw [ret_bind]
    refine hr.mono fun x78 hx78 => ?_
    rw [ret_bind]
    refine hx78.mono fun rhs hrhs => ?_
    obtain ⟨g, hg1, hg2⟩ := hrhs
    rw [ret_bind]
    refine (solve_ok hP (by omega) (by omega) hT hg1 hg2 hR hRT hE).mono fun r hr => ?_
    obtain ⟨hr1, hr2⟩ := hr
    rw [ret_if]
    refine ⟨fun hlt => ?_, fun hge2 => ?_⟩
    · obtain ⟨h1, h2⟩ := hr1 (by omega)
      rw [h2, if_pos rfl, awake07, obs, obs]
      exact ⟨_, rfl, rfl⟩
    · obtain ⟨h1, f, hf1, hf2, hf3⟩ := hr2 (by omega)
      rw [h1, hf1.1, ret_bind, ret_if]
      refine ⟨fun _ => ?_, fun h => absurd (by simp) h⟩
      rw [ret_bind]
      refine (product_ok hP (by omega) (by omega) hT hf1).mono fun pr hpr => ?_
      have e : pr = rhs := by
        refine ints_eq hpr (hg1.congr fun r hr => ?_)
        have e5 : Dt.sm (y + 1) (fun c => X r c % q * (f c % q)) = Dt.sm (y + 1) (fun c => Rd q X r c * f c) := sm_congr fun c hc => by
          unfold Rd; rw [Int.emod_eq_of_lt (hf2 c hc).1 (hf2 c hc).2]
        rw [e5]
        have := Cg.iff.1 (hf3 r hr)
        rw [this, Int.emod_eq_of_lt (hg2 r hr).1 (hg2 r hr).2]
      rw [e, ints_self (by rw [hg1.1]; omega), obs, ret_some, if_pos rfl, awake07, obs, obs]
      exact ⟨_, rfl, rfl⟩
  rw [ret_bind]
  refine (kernel_ok hP (by omega) (by omega) (by omega) (by omega) hT hR hEo hE).mono fun v hv => ?_
  obtain ⟨v1, v2⟩ := v
  obtain ⟨h0, hv⟩ := hv
  simp only at h0 hv
  subst h0
  rw [rank_eq hP (by omega) (by omega) (by omega) hT hR hEo, obs]
  simp only
  rw [hpl] at rest ⊢
  rcases hv with ⟨rfl, hk⟩ | ⟨hk, f, f1, f2, f3, c0, f4, f5⟩
  · rw [if_neg (by simp; omega), if_neg (by simp), if_neg (by simp)]
    exact rest
  · have hl := f1.1
    rw [hl, if_neg (by simp; omega), if_neg (by simp), if_pos (by omega), ret_bind]
    refine (product_ok hP (by omega) (by omega) hT f1).mono fun pr hpr => ?_
    rw [l22_ok f1 (by omega) f4 f5, obs]
    have hz : Ln pr (y + 1) (fun _ => 0) := hpr.congr fun r hr => by
      have e5 : Dt.sm (z + 1) (fun c => X r c % q * (f c % q)) = Dt.sm (z + 1) (fun c => Rd q X r c * f c) := sm_congr fun c hc => by
        unfold Rd; rw [Int.emod_eq_of_lt (f2 c hc).1 (f2 c hc).2]
      rw [e5]
      exact Cg.zero.1 ((hE.2.2.1 f).2 f3 r hr)
    rw [l25_ok hz (by omega), obs, if_pos rfl]
    exact rest
end Km
