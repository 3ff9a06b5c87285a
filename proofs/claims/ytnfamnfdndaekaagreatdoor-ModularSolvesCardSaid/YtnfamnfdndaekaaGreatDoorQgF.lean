/- The program's Solve. -/
import Derived.Test.YtnfamnfdndaekaaGreatDoorQgE
namespace Km
open Sx Go M Vc Dt
set_option linter.unusedVariables false
set_option linter.unusedSimpArgs false
set_option maxHeartbeats 4000000
section
variable {p : Int} {n : Nat} {T : List (List Int)} {X : Mx} {g : Nat → Int}
theorem square_ok (hP : PP p) (hn : 0 < n) (hn2 : n ≤ 200) (hT : Tb T n n X) : modular_square T p = some 0 := by
  unfold modular_square
  rw [check_ok hP hn hn2 hn2 hT, obs, if_pos rfl, columns_ok hn hT, obs, obs, hT.1, if_neg (by simp)]
/-- the matrix with the right sides behind it -/
def Wd (p : Int) (n : Nat) (X : Mx) (g : Nat → Int) : Mx := fun r c => if c < n then X r c % p else g r
theorem Wd.sm (r : Nat) (v : Nat → Int) : Dt.sm (n + 1) (fun c => Wd p n X g r c * v c) = Dt.sm n (fun c => Rd p X r c * v c) + g r * v n := by
  rw [Dt.sm]
  congr 1
  · exact sm_congr fun c hc => by unfold Wd Rd; rw [if_pos hc]
  · unfold Wd; rw [if_neg (by omega)]
theorem wide_ok (hp : 0 < p) (hm : p ≤ 2147483647) (hn2 : n ≤ 200) {R : List (List Int)} (hR : Tb R n n (Rd p X)) {b : List Int} (hb : Ln b n g) (hg : ∀ c, c < n → 0 ≤ g c ∧ g c < p) : Ret (loop (modular_Solve_l1 b p) (R, 0)) (fun R' => Tb R' n (n + 1) (Wd p n X g)) := by
  refine (ret_loop (Post := fun R' : List (List Int) => R'.length = n ∧ ∀ r, r < n → ∃ l, R'[r]? = some l ∧ Ln l (n + 1) (Wd p n X g r)) n (fun k (s : List (List Int) × Int) => s.2 = (k : Int) ∧ s.1.length = n ∧ ∀ r, r < n → ∃ l, s.1[r]? = some l ∧ (if r < k then Ln l (n + 1) (Wd p n X g r) else Ln l n (Rd p X r))) ⟨rfl, hR.1, fun r hr => by obtain ⟨l, h1, h2⟩ := hR.2 r hr; exact ⟨l, h1, by rw [if_neg (by omega)]; exact h2⟩⟩ ?_ (by omega)).mono fun R' h => h
  rintro k ⟨R', _⟩ hk ⟨rfl, h1, h2⟩
  unfold modular_Solve_l1
  simp only at h1 h2 ⊢
  rw [ret_if, hb.1]
  refine ⟨fun hlt => ?_, fun _ => ⟨_, rfl, h1, fun r hr => by obtain ⟨l, h3, h4⟩ := h2 r hr; exact ⟨l, h3, by rw [if_pos (by omega)] at h4; exact h4⟩⟩⟩
  have hkn : k < n := by omega
  obtain ⟨l, h3, h4⟩ := h2 k hkn
  rw [if_neg (by omega)] at h4
  rw [ret_bind]; refine hb.get hkn ?_
  rw [ret_bind, ret_get]
  refine ⟨by omega, by rw [h1]; omega, fun x hx => ?_⟩
  rw [Int.toNat_natCast, h3] at hx
  obtain rfl := Option.some.inj hx
  rw [mod_ok hp hm, obs, ret_bind, ret_app]
  refine ⟨by rw [h4.1]; simp only [List.length_cons, List.length_nil]; omega, ?_⟩
  rw [ret_bind, ret_set, Int.toNat_natCast]
  have hgk := hg k hkn
  refine ⟨by omega, by rw [h1]; omega, _, rfl, by omega, by show wa .i64 (k : Int) 1 = _; rw [wa_i (by omega) (by omega)]; rfl, by show (R'.set k _).length = n; rw [List.length_set, h1], fun r hr => ?_⟩
  show ∃ l', (R'.set k (l ++ [g k % p]))[r]? = some l' ∧ _
  rw [List.getElem?_set]
  by_cases e : k = r
  · subst e
    rw [if_pos rfl, if_pos (by rw [h1]; exact hkn)]
    refine ⟨_, rfl, ?_⟩
    rw [if_pos (by omega)]
    refine ⟨by rw [List.length_append, h4.1]; rfl, fun c hc => ?_⟩
    unfold Wd
    by_cases e2 : c < n
    · rw [List.getElem?_append_left (by rw [h4.1]; exact e2), if_pos e2, h4.2 c e2]; rfl
    · obtain rfl : c = n := by omega
      rw [List.getElem?_append_right (by rw [h4.1]; omega), h4.1, Nat.sub_self, if_neg (by omega), Int.emod_eq_of_lt hgk.1 hgk.2]; rfl
  · rw [if_neg e]
    obtain ⟨l', h5, h6⟩ := h2 r hr
    refine ⟨l', h5, ?_⟩
    by_cases e2 : r < k
    · rw [if_pos e2] at h6; rw [if_pos (by omega)]; exact h6
    · rw [if_neg e2] at h6; rw [if_neg (by omega)]; exact h6
/-- what Solve returns -/
theorem solve_ok (hP : PP p) (hn : 0 < n) (hn2 : n ≤ 200) (hT : Tb T n n X) {b : List Int} (hb : Ln b n g) (hg : ∀ c, c < n → 0 ≤ g c ∧ g c < p) {R : List (List Int)} {o : List (List Int) × List Int × Int} {k0 : Nat} {B0 : Mx} {col0 : Nat → Nat} (hR : modular_reduced T p = some R) (hRT : Tb R n n (Rd p X)) (hE0 : Ech p n n (Rd p X) o k0 B0 col0 n) :
    Ret (modular_Solve T b p) (fun r => (k0 < n → r.1 = [] ∧ r.2 = 9) ∧ (k0 = n → r.2 = 0 ∧ ∃ f : Nat → Int, Ln r.1 n f ∧ (∀ c, c < n → 0 ≤ f c ∧ f c < p) ∧ ∀ r, r < n → Cg p (Dt.sm n (fun c => Rd p X r c * f c)) (g r))) := by
  have hp := hP.two
  have hm := hP.max
  unfold modular_Solve
  rw [square_ok hP hn hn2 hT, obs, if_pos rfl, hb.1, hT.1, if_pos rfl, hR, obs, ret_bind]
  refine (wide_ok (by omega) hm hn2 hRT hb hg).mono fun R' hR' => ?_
  rw [ret_bind]
  have hrng : ∀ r j, r < n → j < n + 1 → 0 ≤ Wd p n X g r j ∧ Wd p n X g r j < p := by
    intro r j hr hj
    unfold Wd
    split
    · exact mod_rng _ (by omega)
    · exact hg r hr
  refine (echelon_ok hP hn (by omega) (by omega) hR' hrng).mono fun e he => ?_
  obtain ⟨k, B, col, e1, e2, e3, e4, _, _⟩ := he
  have hkn := e2.kn
  -- the two matrices' kernels
  have low : ∀ v : Nat → Int, v n = 0 → (Nl p n (n + 1) B v ↔ Nl p n n (Rd p X) v) := by
    intro v hv
    rw [← e3 v]
    constructor
    · intro h r hr; have := h r hr; rw [Wd.sm, hv, Int.mul_zero, Int.add_zero] at this; exact this
    · intro h r hr; rw [Wd.sm, hv, Int.mul_zero, Int.add_zero]; exact h r hr
  have e2' := hE0.2.1
  have hone : ¬ Cg p 1 0 := by rw [Cg.zero, Int.emod_eq_of_lt (by omega) (by omega)]; omega
  -- all pivots stand in their own places exactly if the rank is full
  have sing : k0 < n → ¬ (k = n ∧ ∀ s, s < n → col s = s) := by
    rintro hk0 ⟨rfl, hc⟩
    obtain ⟨fr, hf1, hf2⟩ : ∃ fr, fr < k ∧ ∀ s, s < k0 → col0 s ≠ fr := by
      refine Classical.byContradiction fun hno => ?_
      have hall : ∀ fr, fr < k → ∃ s, s < k0 ∧ col0 s = fr := fun fr hfr => Classical.byContradiction fun h => hno ⟨fr, hfr, fun s hs he => h ⟨s, hs, he⟩⟩
      have hsub : ∀ fr, fr < k → fr ≤ k0 - 1 ∨ True := fun _ _ => .inr trivial
      -- col0 is ascending: the s-th of its values is at least s; were all hit, s would be at least col0 s
      have hge : ∀ s, s < k0 → col0 s ≤ s := by
        intro s
        induction s with
        | zero =>
          intro h
          obtain ⟨t, h1, h2⟩ := hall 0 (by omega)
          rcases Nat.eq_zero_or_pos t with e | e
          · subst e; omega
          · have := e2'.asc 0 t e h1; omega
        | succ s ih =>
          intro h
          have h0 := ih (by omega)
          obtain ⟨t, h1, h2⟩ := hall (s + 1) (by omega)
          rcases Nat.lt_or_ge (s + 1) t with h3 | h3
          · have := e2'.asc (s + 1) t h3 h1; omega
          · rcases Nat.lt_or_ge t (s + 1) with h4 | h4
            · rcases Nat.lt_or_ge t s with h5 | h5
              · have := e2'.asc t s h5 (by omega); omega
              · obtain rfl : t = s := by omega
                omega
            · obtain rfl : t = s + 1 := by omega
              omega
      obtain ⟨t, h1, h2⟩ := hall k0 hk0
      have := hge t h1
      omega
    let v : Nat → Int := fun j => if j = fr then 1 else if j < k then (Classical.epsilon fun z : Int => (∃ s, s < k0 ∧ col0 s = j ∧ z = - B0 s fr) ∨ ((∀ s, s < k0 → col0 s ≠ j) ∧ z = 0)) else 0
    have hv1 : v fr = 1 := if_pos rfl
    have hvn : v k = 0 := by show (if k = fr then _ else _) = _; rw [if_neg (by omega), if_neg (by omega)]
    have hve : ∀ j, j < k → j ≠ fr → ((∃ s, s < k0 ∧ col0 s = j ∧ v j = - B0 s fr) ∨ ((∀ s, s < k0 → col0 s ≠ j) ∧ v j = 0)) := by
      intro j hj hne
      have : v j = Classical.epsilon fun z : Int => (∃ s, s < k0 ∧ col0 s = j ∧ z = - B0 s fr) ∨ ((∀ s, s < k0 → col0 s ≠ j) ∧ z = 0) := by
        show (if j = fr then _ else _) = _; rw [if_neg hne, if_pos hj]
      rw [this]
      refine Classical.epsilon_spec (p := fun z : Int => (∃ s, s < k0 ∧ col0 s = j ∧ z = - B0 s fr) ∨ ((∀ s, s < k0 → col0 s ≠ j) ∧ z = 0)) ?_
      by_cases hs : ∃ s, s < k0 ∧ col0 s = j
      · obtain ⟨s, h1, h2⟩ := hs; exact ⟨_, .inl ⟨s, h1, h2, rfl⟩⟩
      · exact ⟨0, .inr ⟨fun s h1 h2 => hs ⟨s, h1, h2⟩, rfl⟩⟩
    have hinj : ∀ s t, s < k0 → t < k0 → col0 s = col0 t → s = t := by
      intro s t hs ht he
      rcases Nat.lt_trichotomy s t with h | h | h
      · have := e2'.asc s t h ht; omega
      · exact h
      · have := e2'.asc t s h hs; omega
    have hN := e2'.kernel (fr := fr) hf1 hf2 hv1 (fun s hs => by
      rcases hve (col0 s) (e2'.lt s hs) (hf2 s hs) with ⟨t, h1, h2, h3⟩ | ⟨h1, _⟩
      · obtain rfl := hinj t s h1 hs h2
        rw [h3]; exact .refl _ _
      · exact absurd rfl (h1 s hs)) (fun j hj hjf hno => by
      rcases hve j hj hjf with ⟨t, h1, h2, h3⟩ | ⟨_, h1⟩
      · exact absurd h2 (hno t h1)
      · exact h1)
    have hN2 : Nl p k k (Rd p X) v := (hE0.2.2.1 v).2 hN
    have hB := (low v hvn).2 hN2 fr hf1
    have e : Dt.sm (k + 1) (fun c => B fr c * v c) = Dt.sm k (fun c => if c = fr then v c else 0) + B fr k * v k := by
      rw [Dt.sm]
      congr 1
      refine sm_congr fun c hc' => ?_
      have := e2.unit c fr hc' hf1
      rw [hc c hc'] at this
      rw [this]
      by_cases hcr : c = fr
      · rw [if_pos hcr, if_pos hcr.symm, Int.one_mul]
      · rw [if_neg hcr, if_neg (fun e => hcr e.symm), Int.zero_mul]
    rw [e, sm_one (f := v) hf1, hv1, hvn, Int.mul_zero, Int.add_zero] at hB
    exact hone hB
  have full : k0 = n → k = n ∧ ∀ s, s < n → col s = s := by
    intro hk0
    refine Classical.byContradiction fun hno => ?_
    obtain ⟨fr, hfr, h1, h2⟩ : ∃ fr, fr < n ∧ (∀ s, s < fr → s < k ∧ col s = s) ∧ (fr < k → col fr ≠ fr) := by
      refine Classical.byContradiction fun hno2 => hno ?_
      have hall : ∀ m, m ≤ n → ∀ s, s < m → s < k ∧ col s = s := by
        intro m
        induction m with
        | zero => intro _ s h; omega
        | succ m ih =>
          intro hm s hs
          rcases Nat.lt_or_ge s m with h | h
          · exact ih (by omega) s h
          · obtain rfl : s = m := by omega
            refine Classical.byContradiction fun hc => hno2 ⟨s, by omega, ih (by omega), fun h1 h2 => hc ⟨h1, h2⟩⟩
      have := hall n (Nat.le_refl n)
      refine ⟨?_, fun s hs => (this s hs).2⟩
      have := (this (n - 1) (by omega)).1
      omega
    have hno3 := e2.first h1 h2
    have hinj : ∀ s t, s < k → t < k → col s = col t → s = t := by
      intro s t hs ht he
      rcases Nat.lt_trichotomy s t with h | h | h
      · have := e2.asc s t h ht; omega
      · exact h
      · have := e2.asc t s h hs; omega
    let v : Nat → Int := fun j => if j = fr then 1 else (Classical.epsilon fun z : Int => (∃ s, s < k ∧ col s = j ∧ z = - B s fr) ∨ ((∀ s, s < k → col s ≠ j) ∧ z = 0))
    have hv1 : v fr = 1 := if_pos rfl
    have hve : ∀ j, j ≠ fr → ((∃ s, s < k ∧ col s = j ∧ v j = - B s fr) ∨ ((∀ s, s < k → col s ≠ j) ∧ v j = 0)) := by
      intro j hne
      have : v j = Classical.epsilon fun z : Int => (∃ s, s < k ∧ col s = j ∧ z = - B s fr) ∨ ((∀ s, s < k → col s ≠ j) ∧ z = 0) := by
        show (if j = fr then _ else _) = _; rw [if_neg hne]
      rw [this]
      refine Classical.epsilon_spec (p := fun z : Int => (∃ s, s < k ∧ col s = j ∧ z = - B s fr) ∨ ((∀ s, s < k → col s ≠ j) ∧ z = 0)) ?_
      by_cases hs : ∃ s, s < k ∧ col s = j
      · obtain ⟨s, h1, h2⟩ := hs; exact ⟨_, .inl ⟨s, h1, h2, rfl⟩⟩
      · exact ⟨0, .inr ⟨fun s h1 h2 => hs ⟨s, h1, h2⟩, rfl⟩⟩
    have hN := e2.kernel (fr := fr) (by omega) hno3 hv1 (fun s hs => by
      rcases hve (col s) (hno3 s hs) with ⟨t, h1, h2, h3⟩ | ⟨h1, _⟩
      · obtain rfl := hinj t s h1 hs h2
        rw [h3]; exact .refl _ _
      · exact absurd rfl (h1 s hs)) (fun j hj hjf hno => by
      rcases hve j hjf with ⟨t, h1, h2, h3⟩ | ⟨_, h1⟩
      · exact absurd h2 (hno t h1)
      · exact h1)
    have hvn : v n = 0 := by
      rcases hve n (by omega) with ⟨t, h1, h2, h3⟩ | ⟨_, h1⟩
      · rw [h3, e2.lead t fr h1 (by omega)]; rfl
      · exact h1
    have hN2 := (low v hvn).1 hN
    subst hk0
    have := Rre.only hE0.2.1 ((hE0.2.2.1 v).1 hN2) fr hfr
    rw [hv1] at this
    exact hone this
  rw [ret_bind]
  refine (ret_loop (Post := fun r => (r = .inr () ∧ ¬ (k = n ∧ ∀ s, s < n → col s = s)) ∨ ∃ l, r = .inl l ∧ (k = n ∧ ∀ s, s < n → col s = s) ∧ Ln l n (fun i => B i n)) n (fun m (s : List Int × Int) => s.2 = (m : Int) ∧ m ≤ k ∧ (∀ s, s < m → col s = s) ∧ Ln s.1 m (fun i => B i n)) ⟨rfl, by omega, fun s h => absurd h (by omega), rfl, fun c h => absurd h (by omega)⟩ ?_ (by omega)).mono ?_
  · rintro m ⟨l, _⟩ hmn ⟨rfl, h1, h2, h3⟩
    unfold modular_Solve_l4
    simp only at h3 ⊢
    rw [ret_if, hT.1]
    refine ⟨fun hlt => ?_, fun hge => ⟨_, rfl, .inr ⟨l, rfl, ⟨by omega, fun s hs => h2 s (by omega)⟩, by have e : m = n := (by omega); exact e ▸ h3⟩⟩⟩
    have hmn : m < n := by omega
    rw [ret_bind, ret_if, e4.1]
    refine ⟨fun hle => ?_, fun hle => ?_⟩
    · rw [ret_some, if_pos rfl]
      exact ⟨_, rfl, .inl ⟨rfl, by rintro ⟨h, _⟩; omega⟩⟩
    · rw [ret_bind, ret_get]
      refine ⟨by omega, by rw [e4.1]; omega, fun x hx => ?_⟩
      rw [Int.toNat_natCast, e4.2 m (by omega)] at hx
      obtain rfl := Option.some.inj hx
      rw [ret_some, ret_if]
      refine ⟨fun hne => ?_, fun he => ?_⟩
      · have : ¬ (col m : Int) = (m : Int) := by simpa using hne
        exact ⟨_, rfl, .inl ⟨rfl, by rintro ⟨_, h⟩; have := h m hmn; omega⟩⟩
      · have he : (col m : Int) = (m : Int) := by simpa using he
        rw [ret_bind]; refine e1.get hmn fun l' _ hl' => ?_
        rw [ret_bind]; refine hl'.get (show n < n + 1 by omega) ?_
        rw [ret_bind, ret_app]
        refine ⟨by rw [h3.1]; simp only [List.length_cons, List.length_nil]; omega, _, rfl, by omega, by show wa .i64 (m : Int) 1 = _; rw [wa_i (by omega) (by omega)]; rfl, by omega, fun s hs => ?_, by show (l ++ [_]).length = m + 1; rw [List.length_append, h3.1]; rfl, fun c hc => ?_⟩
        · by_cases e : s = m
          · rw [e]; omega
          · exact h2 s (by omega)
        · show (l ++ [B m n])[c]? = _
          by_cases e : c = m
          · subst e; rw [List.getElem?_append_right (by rw [h3.1]; omega), h3.1, Nat.sub_self]; rfl
          · rw [List.getElem?_append_left (by rw [h3.1]; omega), h3.2 c (by omega)]
  · rintro _ (⟨rfl, h⟩ | ⟨l, rfl, h, hl⟩)
    · exact ⟨_, rfl, fun _ => ⟨rfl, rfl⟩, fun hk => absurd (full hk) h⟩
    · refine ⟨_, rfl, fun hk => absurd h (sing hk), fun _ => ⟨rfl, fun i => B i n, hl, fun c hc => e2.rng c n hc (by omega), fun r hr => ?_⟩⟩
      obtain ⟨rfl, hc⟩ := h
      have hs := e2.solve hc (v := fun j => if j < k then B j k else -1) (fun j hj => if_pos hj) (if_neg (by omega))
      have := (e3 _).2 hs r hr
      rw [Wd.sm, if_neg (by omega)] at this
      have e5 : Dt.sm k (fun c => Rd p X r c * if c < k then B c k else -1) = Dt.sm k (fun c => Rd p X r c * B c k) := sm_congr fun c hc => by rw [if_pos hc]
      rw [e5] at this
      have h7 := this.add (Cg.refl p (g r))
      rw [Int.zero_add] at h7
      have e6 : Dt.sm k (fun c => Rd p X r c * B c k) + g r * -1 + g r = Dt.sm k (fun c => Rd p X r c * B c k) := by omega
      rwa [e6] at h7
end
end Km
