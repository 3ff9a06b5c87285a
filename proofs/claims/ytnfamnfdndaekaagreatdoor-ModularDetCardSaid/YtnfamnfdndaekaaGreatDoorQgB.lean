/- One step of the program's elimination modulo a prime, loop by loop. -/
import Derived.Test.YtnfamnfdndaekaaGreatDoorQgA
namespace Km
open Sx Go M Vc Dt
set_option linter.unusedVariables false
set_option linter.unusedSimpArgs false
set_option maxHeartbeats 4000000
section
variable {p : Int} {n w : Nat}
theorem sub_mod (p a b : Int) : (a - b % p) % p = (a - b) % p := Cg.iff.1 ((Cg.refl p a).sub (Cg.mod p b))
theorem subtract_ok (hp : 0 < p) (hm : p ≤ 2147483647) {l o : List Int} {f g : Nat → Int} {x : Int} (hl : Ln l w f) (ho : Ln o w g) (hf : ∀ c, c < w → 0 ≤ f c ∧ f c < p) (hg : ∀ c, c < w → 0 ≤ g c ∧ g c < p) (hx : 0 ≤ x ∧ x < p) (hw : w ≤ 1000) :
    Ret (modular_subtract l o x p) (fun l' => Ln l' w (fun c => (f c - x * g c) % p)) := by
  unfold modular_subtract
  rw [ret_bind]
  refine (ret_loop (Post := fun l' => Ln l' w (fun c => (f c - x * g c) % p)) w (fun k (s : List Int × Int) => s.2 = (k : Int) ∧ Ln s.1 w (fun j => if j < k then (f j - x * g j) % p else f j)) ⟨rfl, hl.congr fun c _ => by rw [if_neg (by omega)]⟩ ?_ (by omega)).mono fun _ h => ⟨_, rfl, h⟩
  rintro k ⟨l', _⟩ hk ⟨rfl, h⟩
  unfold modular_subtract_l1
  simp only at h ⊢
  rw [ret_if, ho.1]
  refine ⟨fun hlt => ?_, fun hge => ⟨_, rfl, ?_⟩⟩
  · have hkw : k < w := by omega
    rw [ret_bind]; refine ho.get hkw ?_
    rw [ret_bind]; refine h.get hkw ?_
    show Ret ((wr (wm .i64 x (g k)) p).bind _) _
    rw [if_neg (by omega), wmr hm hx (hg k hkw), obs]
    have h1 := mod_rng (x * g k) hp
    have h2 := hf k hkw
    rw [ws_i (by omega) (by omega), mod_ok hp hm, obs, ret_bind, ret_set]
    refine ⟨by omega, by rw [h.1]; omega, _, rfl, ?_⟩
    refine ⟨by omega, by show wa .i64 (k : Int) 1 = _; rw [wa_i (by omega) (by omega)]; omega, ?_⟩
    show Ln (l'.set (k : Int).toNat _) w _
    rw [Int.toNat_natCast]
    refine (h.set hkw _).congr fun j _ => ?_
    by_cases e : j = k
    · subst e; rw [if_pos rfl, if_pos (by omega), sub_mod]
    · rw [if_neg e]
      by_cases e2 : j < k
      · rw [if_pos e2, if_pos (by omega)]
      · rw [if_neg e2, if_neg (by omega)]
  · show Ln l' w _
    exact h.congr fun j hj => by rw [if_pos (by omega)]
theorem scale_ok (hp : 0 < p) (hm : p ≤ 2147483647) {T : List (List Int)} {A : Mx} (hT : Tb T n w A) {k : Nat} (hk : k < n) (hr : ∀ c, c < w → 0 ≤ A k c ∧ A k c < p) {f : Int} (hf : 0 ≤ f ∧ f < p) {top piv : List Int} (h1 : top.length = w) (h2 : piv.length = k) (hw : w ≤ 1000) :
    Ret (loop (modular_echelon_l163 top piv f p) (T, 0)) (fun T' => Tb T' n w (up A k (fun j => A k j * f % p))) := by
  refine ret_loop w (fun m (s : List (List Int) × Int) => s.2 = (m : Int) ∧ Tb s.1 n w (up A k (fun j => if j < m then A k j * f % p else A k j))) ⟨rfl, hT.congr fun r c hr hc => ?_⟩ ?_ (by omega)
  · by_cases e : r = k
    · subst e; rw [up_in, if_neg (by omega)]
    · rw [up_out e]
  · rintro m ⟨T', _⟩ hmw ⟨rfl, h⟩
    unfold modular_echelon_l163
    simp only at h ⊢
    rw [ret_if, h1, h2]
    refine ⟨fun hlt => ?_, fun hge => ⟨_, rfl, ?_⟩⟩
    · have hmw : m < w := by omega
      rw [ret_bind]; refine h.get hk fun l hl1 hl2 => ?_
      rw [ret_bind]; refine h.get hk fun l' hl1' hl2' => ?_
      obtain rfl := Option.some.inj (hl1.symm.trans hl1')
      rw [ret_bind]; refine hl2.get hmw ?_
      rw [up_in, if_neg (by omega), wmr hm (hr m hmw) hf, obs, ret_bind, ret_set]
      refine ⟨by omega, by rw [hl2.1]; omega, ?_⟩
      rw [ret_bind, ret_set]
      refine ⟨by omega, by rw [h.1]; omega, _, rfl, ?_⟩
      refine ⟨by omega, by show wa .i64 (m : Int) 1 = _; rw [wa_i (by omega) (by omega)]; omega, ?_⟩
      show Tb (T'.set (k : Int).toNat (l.set (m : Int).toNat _)) n w _
      rw [Int.toNat_natCast, Int.toNat_natCast]
      refine (h.set hk (hl2.set hmw _)).congr fun r c hr hc => ?_
      by_cases e : r = k
      · subst e
        rw [up_in, up_in]
        by_cases e2 : c = m
        · subst e2; rw [if_pos rfl, up_in, if_pos (by omega)]
        · rw [if_neg e2, up_in]
          by_cases e3 : c < m
          · rw [if_pos e3, if_pos (by omega)]
          · rw [if_neg e3, if_neg (by omega)]
      · rw [up_out e, up_out e, up_out e]
    · show Tb T' n w _
      refine h.congr fun r c hr hc => ?_
      by_cases e : r = k
      · subst e; rw [up_in, up_in, if_pos (by omega)]
      · rw [up_out e, up_out e]
/-- row k taken off the first m others, so that column c is cleared -/
def Em (p : Int) (A : Mx) (k c m : Nat) : Mx := fun r j => if r ≠ k ∧ r < m then (A r j - A r c * A k j) % p else A r j
theorem elim_ok (hp : 0 < p) (hm : p ≤ 2147483647) {T : List (List Int)} {A : Mx} (hT : Tb T n w A) {k c : Nat} (hk : k < n) (hc : c < w) (hr : ∀ r j, r < n → j < w → 0 ≤ A r j ∧ A r j < p) {T0 : List (List Int)} {piv : List Int} (h1 : T0.length = n) (h2 : piv.length = k) (hw : w ≤ 1000) (hn : n ≤ 1000) :
    Ret (loop (modular_echelon_l168 T0 piv (c : Int) p) (T, 0)) (fun T' => Tb T' n w (Em p A k c n)) := by
  refine ret_loop n (fun m (s : List (List Int) × Int) => s.2 = (m : Int) ∧ Tb s.1 n w (Em p A k c m)) ⟨rfl, hT.congr fun r j hr hc => ?_⟩ ?_ (by omega)
  · unfold Em; rw [if_neg (by omega)]
  · rintro m ⟨T', _⟩ hmw ⟨rfl, h⟩
    unfold modular_echelon_l168 modular_echelon_j170
    simp only at h ⊢
    rw [ret_if, h1, h2]
    refine ⟨fun hlt => ?_, fun hge => ⟨_, rfl, ?_⟩⟩
    · have hmn : m < n := by omega
      have nxt : wa .i64 (m : Int) 1 = ((m + 1 : Nat) : Int) := by rw [wa_i (by omega) (by omega)]; rfl
      have Emm : Em p A k c m m = A m := by funext j; unfold Em; rw [if_neg (by omega)]
      have Emk : Em p A k c m k = A k := by funext j; unfold Em; rw [if_neg (by omega)]
      rw [ret_bind]; refine h.get hmn fun l hl1 hl2 => ?_
      rw [Emm] at hl2
      rw [ret_bind, ret_if]
      refine ⟨fun he => ?_, fun he => ?_⟩
      · have he : m = k := by omega
        rw [ret_some, if_neg (by simp)]
        refine ⟨_, rfl, by omega, nxt, ?_⟩
        refine h.congr fun r j hr hc => ?_
        unfold Em
        by_cases e : r ≠ k ∧ r < m
        · rw [if_pos e, if_pos (by omega)]
        · rw [if_neg e, if_neg (by omega)]
      · have he : m ≠ k := by omega
        rw [ret_bind]; refine hl2.get hc ?_
        rw [ret_some, ret_if]
        have hz := hr m c hmn hc
        refine ⟨fun hne => ?_, fun hne => ?_⟩
        · rw [ret_bind]; refine h.get hk fun lk hk1 hk2 => ?_
          rw [Emk] at hk2
          rw [ret_bind]; refine hl2.get hc ?_
          have hnei : neI (m : Int) (k : Int) = some () := by unfold neI; rw [if_neg (by omega)]
          rw [hnei, obs, ret_bind]
          refine (subtract_ok hp hm hl2 hk2 (fun j hj => hr m j hmn hj) (fun j hj => hr k j hk hj) hz hw).mono fun l' hl' => ?_
          rw [ret_bind, ret_set]
          refine ⟨by omega, by rw [h.1]; omega, _, rfl, by omega, nxt, ?_⟩
          show Tb (T'.set (m : Int).toNat l') n w _
          rw [Int.toNat_natCast]
          refine (h.set hmn hl').congr fun r j hr hc => ?_
          by_cases e : r = m
          · subst e; rw [up_in]; unfold Em; rw [if_pos ⟨he, by omega⟩]
          · rw [up_out e]; unfold Em
            by_cases e2 : r ≠ k ∧ r < m
            · rw [if_pos e2, if_pos (by omega)]
            · rw [if_neg e2, if_neg (by omega)]
        · have h0 : A m c = 0 := by simpa using hne
          refine ⟨_, rfl, by omega, nxt, ?_⟩
          refine h.congr fun r j hr' hc => ?_
          unfold Em
          by_cases e : r = m
          · subst e
            rw [if_neg (by omega), if_pos ⟨he, by omega⟩, h0, Int.zero_mul, Int.sub_zero]
            have := hr r j hr' hc
            rw [Int.emod_eq_of_lt this.1 this.2]
          · by_cases e2 : r ≠ k ∧ r < m
            · rw [if_pos e2, if_pos (by omega)]
            · rw [if_neg e2, if_neg (by omega)]
    · show Tb T' n w _
      refine h.congr fun r j hr hc => ?_
      unfold Em
      by_cases e : r ≠ k ∧ r < m
      · rw [if_pos e, if_pos (by omega)]
      · rw [if_neg e, if_neg (by omega)]
theorem find_ok {T : List (List Int)} {A : Mx} (hT : Tb T n w A) {c : Nat} (hc : c < w) (hn : n ≤ 1000) :
    Ret (slices_IndexFunc_int_v2 T (c : Int)) (fun i => (i = -1 ∧ ∀ r, r < n → A r c = 0) ∨ ∃ r : Nat, i = (r : Int) ∧ r < n ∧ A r c ≠ 0) := by
  unfold slices_IndexFunc_int_v2
  rw [ret_bind]
  refine (ret_loop (Post := fun o => (o = .inl () ∧ ∀ r, r < n → A r c = 0) ∨ ∃ r : Nat, o = .inr (r : Int) ∧ r < n ∧ A r c ≠ 0) n (fun k (i : Int) => i = (k : Int) ∧ k ≤ n ∧ ∀ r, r < k → A r c = 0) ⟨rfl, by omega, fun r h => absurd h (by omega)⟩ ?_ (by omega)).mono ?_
  · rintro k _ hk ⟨rfl, hkn, h0⟩
    unfold slices_IndexFunc_int_v2_l1 modular_echelon_1
    rw [ret_if, hT.1]
    refine ⟨fun hlt => ?_, fun hge => ⟨_, rfl, .inl ⟨rfl, fun r hr => h0 r (by omega)⟩⟩⟩
    have hkn : k < n := by omega
    rw [ret_bind]; refine hT.get hkn fun l hl1 hl2 => ?_
    rw [ret_bind, ret_bind]; refine hl2.get hc ?_
    rw [ret_some, ret_if]
    refine ⟨fun hne => ⟨_, rfl, .inr ⟨k, rfl, hkn, by simpa using hne⟩⟩, fun hne => ⟨_, rfl, by omega, by rw [wa_i (by omega) (by omega)]; rfl, by omega, fun r hr => ?_⟩⟩
    by_cases e : r = k
    · subst e; simpa using hne
    · exact h0 r (by omega)
  · rintro o (⟨rfl, h⟩ | ⟨r, rfl, h1, h2⟩)
    · exact ⟨_, rfl, .inl ⟨rfl, h⟩⟩
    · exact ⟨_, rfl, .inr ⟨r, rfl, h1, h2⟩⟩
end
end Km
