/- The program's elimination modulo a prime brings a table into the reduced row echelon form. -/
import Derived.Test.YtnfamnfdndaekaaGreatDoorQgB
namespace Km
open Sx Go M Vc Dt
set_option linter.unusedVariables false
set_option linter.unusedSimpArgs false
set_option maxHeartbeats 4000000
section
variable {p : Int} {n w : Nat} {A B : Mx} {col : Nat → Nat} {k c : Nat}
theorem _root_.Dt.Rre.none (h : Rre p n w B col k c) (hc : c < w) (hz : ∀ r, k ≤ r → r < n → B r c = 0) : Rre p n w B col k (c + 1) where
  kn := h.kn
  cw := hc
  lt := fun s hs => by have := h.lt s hs; omega
  asc := h.asc
  unit := h.unit
  zero := fun r j h1 h2 h3 => by
    by_cases e : j = c
    · subst e; exact hz r h1 h2
    · exact h.zero r j h1 h2 (by omega)
  rng := h.rng
  lead := h.lead
/-- all rows have a pivot: the other columns need no look -/
theorem _root_.Dt.Rre.full (h : Rre p n w B col n c) : Rre p n w B col n w where
  kn := h.kn
  cw := Nat.le_refl w
  lt := fun s hs => by have := h.lt s hs; have := h.cw; omega
  asc := h.asc
  unit := h.unit
  zero := fun r j h1 h2 h3 => absurd h1 (by omega)
  rng := h.rng
  lead := h.lead
/-- row k is scaled by f, and taken off the others -/
def St3 (p : Int) (n : Nat) (B : Mx) (k c : Nat) (f : Int) : Mx := Em p (up B k (fun j => B k j * f % p)) k c n
theorem St3.self {f : Int} {j : Nat} : St3 p n B k c f k j = B k j * f % p := by
  unfold St3 Em; rw [if_neg (by omega), up_in]
theorem St3.oth {f : Int} {r j : Nat} (hr : r ≠ k) (hn : r < n) : St3 p n B k c f r j = (B r j - B r c * (B k j * f % p)) % p := by
  unfold St3 Em; rw [if_pos ⟨hr, hn⟩, up_out hr, up_out hr, up_in]
theorem St3.cg {f : Int} {r j : Nat} (hn : r < n) : Cg p (St3 p n B k c f r j) (Dt.adds (up B k (fun c => f * B k c)) k (fun r => -(B r c)) n r j) := by
  by_cases hr : r = k
  · subst hr
    rw [St3.self, adds_out (by omega), up_in, Int.mul_comm]
    exact Cg.mod p _
  · rw [St3.oth hr hn, adds_in ⟨hr, hn⟩, up_out hr, up_in]
    refine (Cg.mod p _).trans ?_
    have : B r j + -(B r c) * (f * B k j) = B r j - B r c * (B k j * f) := by
      rw [Int.neg_mul, Int.mul_comm f]; rfl
    rw [this]
    exact (Cg.refl p _).sub ((Cg.refl p _).mul (Cg.mod p _))
theorem sw_low (h : Rre p n w B col k c) {t : Nat} (hk : k < n) (hkt : k ≤ t) (ht : t < n) : ∀ s r, s < k → r < n → sw B k t r (col s) = if r = s then 1 else 0 := by
  intro s r hs hr
  unfold sw
  by_cases h1 : r = k
  · rw [if_pos h1, h.unit s t hs ht, if_neg (by omega), if_neg (by omega)]
  · rw [if_neg h1]
    by_cases h2 : r = t
    · rw [if_pos h2, h.unit s k hs hk, if_neg (by omega), if_neg (by omega)]
    · rw [if_neg h2]; exact h.unit s r hs hr
theorem sw_zero (h : Rre p n w B col k c) {t : Nat} (hk : k < n) (hkt : k ≤ t) (ht : t < n) : ∀ r j, k ≤ r → r < n → j < c → sw B k t r j = 0 := by
  intro r j h1 h2 h3
  unfold sw
  split
  · exact h.zero t j hkt ht h3
  · split
    · exact h.zero k j (Nat.le_refl k) hk h3
    · exact h.zero r j h1 h2 h3
theorem _root_.Dt.Rre.next (hp : 2 ≤ p) (h : Rre p n w B col k c) (hc : c < w) {t : Nat} (hk : k < n) (hkt : k ≤ t) (ht : t < n) {f : Int} (hf : sw B k t k c * f % p = 1) :
    Rre p n w (St3 p n (sw B k t) k c f) (fun s => if s = k then c else col s) (k + 1) (c + 1) := by
  have pv : ∀ r, r < n → r ≠ k → St3 p n (sw B k t) k c f r c = 0 := by
    intro r hr hne
    rw [St3.oth hne hr, hf, Int.mul_one, Int.sub_self, Int.zero_emod]
  have lo := sw_low h hk hkt ht
  have ze := sw_zero h hk hkt ht
  have kc : ∀ s, s < k → sw B k t s = B s := by
    intro s hs; funext j; unfold sw; rw [if_neg (by omega), if_neg (by omega)]
  refine ⟨hk, hc, fun s hs => ?_, fun s u h1 h2 => ?_, fun s r hs hr => ?_, fun r j h1 h2 h3 => ?_, fun r j h1 h2 => ?_, fun s j hs hj => ?_⟩
  · split
    · omega
    · have := h.lt s (by omega); omega
  · rw [if_neg (show s ≠ k by omega)]
    split
    · exact h.lt s (by omega)
    · exact h.asc s u h1 (by omega)
  · by_cases e : s = k
    · subst e
      rw [if_pos rfl]
      by_cases e2 : r = s
      · subst e2; rw [if_pos rfl, St3.self]; exact hf
      · rw [if_neg e2]; exact pv r hr e2
    · rw [if_neg e]
      by_cases e2 : r = k
      · subst e2
        rw [St3.self, lo s r (by omega) hk, if_neg (by omega), Int.zero_mul, Int.zero_emod]
      · rw [St3.oth e2 hr, lo s k (by omega) hk, if_neg (by omega), Int.zero_mul, Int.zero_emod, Int.mul_zero, Int.sub_zero, lo s r (by omega) hr]
        split
        · exact Int.emod_eq_of_lt (by omega) (by omega)
        · exact Int.zero_emod p
  · by_cases e : j = c
    · subst e; exact pv r h2 (by omega)
    · rw [St3.oth (by omega) h2, ze r j (by omega) h2 (by omega), ze k j (Nat.le_refl k) hk (by omega), Int.zero_mul, Int.zero_emod, Int.mul_zero, Int.sub_zero, Int.zero_emod]
  · by_cases e : r = k
    · subst e; rw [St3.self]; exact mod_rng _ (by omega)
    · rw [St3.oth e h1]; exact mod_rng _ (by omega)
  · by_cases e : s = k
    · subst e
      rw [if_pos rfl] at hj
      rw [St3.self, ze s j (Nat.le_refl s) hk hj, Int.zero_mul, Int.zero_emod]
    · rw [if_neg e] at hj
      have := h.lt s (by omega)
      rw [St3.oth e (by omega), ze k j (Nat.le_refl k) hk (by omega), Int.zero_mul, Int.zero_emod, Int.mul_zero, Int.sub_zero, kc s (by omega), h.lead s j (by omega) hj, Int.zero_emod]
theorem sw_self (B : Mx) (k : Nat) : sw B k k = B := by
  funext r c; unfold sw; split
  · rename_i h; rw [h]
  · rfl
theorem Rq.sw3 {t : Nat} (hk : k < n) (ht : t < n) {f : Int} (hf : Cg p (sw B k t k c * f) 1) : Rq p n w B (St3 p n (sw B k t) k c f) := by
  refine (Rq.sw B hk ht).trans ((Rq.step (Dt.sw B k t) hk hf fun r => -(Dt.sw B k t r c)).trans (Rq.cg fun r j hr _ => (St3.cg hr).symm))
/-- the product of the pivots -/
theorem det_next {t : Nat} (hk : k < n) (ht : t < n) {f d q : Int} (hf : Cg p (sw B k t k c * f) 1) (hd : Cg p d (q * det n B)) : Cg p d (((if t = k then q else -q) * sw B k t k c) * det n (St3 p n (sw B k t) k c f)) := by
  have h1 : Cg p (det n (St3 p n (sw B k t) k c f)) (f * det n (sw B k t)) := by
    rw [← det_step (Dt.sw B k t) hk f (fun r => -(Dt.sw B k t r c))]
    exact Cg.det fun r j hr _ => St3.cg hr
  have h2 : (if t = k then q else -q) * det n (sw B k t) = q * det n B := by
    split
    · rename_i e; subst e; rw [sw_self]
    · rename_i e
      rw [(det_am n).swap hk ht (by omega) B, Int.neg_mul_neg]
  have h3 : Cg p (((if t = k then q else -q) * sw B k t k c) * det n (St3 p n (sw B k t) k c f)) (q * det n B) := by
    refine ((Cg.refl p _).mul h1).trans ?_
    have e : (if t = k then q else -q) * sw B k t k c * (f * det n (sw B k t)) = (sw B k t k c * f) * ((if t = k then q else -q) * det n (sw B k t)) := by grind
    rw [e, h2]
    have := hf.mul (Cg.refl p (q * det n B))
    rwa [Int.one_mul] at this
  exact hd.trans h3.symm
end
/-- the list of the pivots' columns -/
def Pv (l : List Int) (k : Nat) (col : Nat → Nat) : Prop := l.length = k ∧ ∀ s, s < k → l[s]? = some (col s : Int)
theorem Pv.push {l : List Int} {k c : Nat} {col : Nat → Nat} (h : Pv l k col) : Pv (l ++ [(c : Int)]) (k + 1) (fun s => if s = k then c else col s) := by
  refine ⟨by simp [h.1], fun s hs => ?_⟩
  by_cases e : s = k
  · subst e; simp only [if_true]; rw [List.getElem?_append_right (by rw [h.1]; omega), h.1, Nat.sub_self]; rfl
  · rw [List.getElem?_append_left (by rw [h.1]; omega), h.2 s (by omega)]; simp only [e, if_false]
theorem Tb.drop {n w : Nat} {T : List (List Int)} {A : Mx} (h : Tb T n w A) (k : Nat) (hk : k ≤ n) : Tb ((T.take n).drop k) (n - k) w (fun r => A (k + r)) := by
  refine ⟨by rw [List.length_drop, List.length_take, h.1]; omega, fun r hr => ?_⟩
  obtain ⟨l, h1, h2⟩ := h.2 (k + r) (by omega)
  exact ⟨l, by rw [List.getElem?_drop, List.getElem?_take, if_pos (by omega)]; exact h1, h2⟩
/-- what the elimination leaves -/
def Ech (p : Int) (n w : Nat) (A : Mx) (o : List (List Int) × List Int × Int) (k : Nat) (B : Mx) (col : Nat → Nat) (c : Nat) : Prop :=
  Tb o.1 n w B ∧ Rre p n w B col k c ∧ Rq p n w A B ∧ Pv o.2.1 k col ∧ (0 ≤ o.2.2 ∧ o.2.2 < p) ∧ Cg p (det n A) (o.2.2 * det n B) ∧ ∃ u, Cg p (o.2.2 * u) 1
theorem echelon_ok {p : Int} (hP : PP p) {n w : Nat} (hn : 0 < n) (hn2 : n ≤ 1000) (hw : w ≤ 1000) {T : List (List Int)} {A : Mx} (hT : Tb T n w A) (hA : ∀ r j, r < n → j < w → 0 ≤ A r j ∧ A r j < p) :
    Ret (modular_echelon T p) (fun o => ∃ k B col, Ech p n w A o k B col w) := by
  have hp := hP.two
  have hm := hP.max
  unfold modular_echelon modular_columns
  rw [ret_bind, ret_if, hT.1]
  refine ⟨fun h => absurd h (by omega), fun _ => ?_⟩
  rw [ret_bind]
  have hg := hT.get hn (Q := fun l => l.length = w) (fun l _ hl => hl.1)
  refine hg.mono fun l0 hl0 => ?_
  rw [ret_some, hl0, ret_bind]
  refine (ret_loop (Post := fun o => ∃ k B col, Ech p n w A o k B col w) w (fun c (s : List (List Int) × List Int × Int × Int) => s.2.2.2 = (c : Int) ∧ ∃ k B col, Ech p n w A (s.1, s.2.1, s.2.2.1) k B col c) ⟨rfl, 0, A, fun _ => 0, hT, ⟨by omega, by omega, fun s h => absurd h (by omega), fun s t h1 h2 => absurd h2 (by omega), fun s r h => absurd h (by omega), fun r j _ _ h => absurd h (by omega), hA, fun s j h => absurd h (by omega)⟩, Rq.refl _ _ _ _, ⟨rfl, fun s h => absurd h (by omega)⟩, ⟨by show (0 : Int) ≤ 1; omega, by show (1 : Int) < p; omega⟩, ⟨by show Cg p _ (1 * _); rw [Int.one_mul]; exact .refl _ _, 1, .refl _ _⟩⟩ ?_ (by omega)).mono ?_
  · rintro c ⟨T', pv, q, _⟩ hcw ⟨rfl, k, B, col, h1, h2, h3, h4, h5, h6⟩
    simp only at h1 h4 h5 h6
    unfold modular_echelon_l142 modular_echelon_j161
    simp only
    have hkn := h2.kn
    rw [ret_if]
    refine ⟨fun hlt => ?_, fun hge => ⟨_, rfl, k, B, col, h1, (by have e : c = w := (by omega); subst e; exact h2), h3, h4, h5, h6⟩⟩
    have hcw : c < w := by omega
    have nxt : wa .i64 (c : Int) 1 = ((c + 1 : Nat) : Int) := by rw [wa_i (by omega) (by omega)]; rfl
    rw [ret_if, h4.1, h1.1]
    refine ⟨fun he => ⟨_, rfl, k, B, col, h1, (by have e : k = n := (by omega); subst e; exact h2.full), h3, h4, h5, h6⟩, fun he => ?_⟩
    have hkn : k < n := by omega
    rw [ret_bind, ret_sli]
    refine ⟨by omega, by omega, by rw [h1.1]; omega, ?_⟩
    rw [Int.toNat_natCast, Int.toNat_natCast, ret_bind]
    refine (find_ok (h1.drop k (by omega)) hcw (by omega)).mono fun i hi => ?_
    rw [wa_i (by rcases hi with ⟨rfl, _⟩ | ⟨r, rfl, _⟩ <;> omega) (by rcases hi with ⟨rfl, _⟩ | ⟨r, rfl, h, _⟩ <;> omega)]
    rw [ret_if]
    refine ⟨fun hlo => ?_, fun hlo => ?_⟩
    · obtain ⟨rfl, hz⟩ : i = -1 ∧ ∀ r, r < n - k → B (k + r) c = 0 := by
        rcases hi with h | ⟨r, rfl, _⟩
        · exact h
        · omega
      refine ⟨_, rfl, by omega, nxt, k, B, col, h1, h2.none hcw (fun r hr1 hr2 => ?_), h3, h4, h5, h6⟩
      have := hz (r - k) (by omega)
      rwa [show k + (r - k) = r by omega] at this
    · obtain ⟨r, rfl, hr, hne⟩ : ∃ r : Nat, i = (r : Int) ∧ r < n - k ∧ B (k + r) c ≠ 0 := by
        rcases hi with ⟨rfl, _⟩ | h
        · omega
        · exact h
      -- what is left to do once the pivot's row is at its place
      have key : ∀ (T1 : List (List Int)) (q1 : Int), Tb T1 n w (sw B k (k + r)) → (0 ≤ q1 ∧ q1 < p) → Cg p q1 (if k + r = k then q else -q) →
          Ret (modular_echelon_j162 pv (c : Int) p T1 q1) (VQ (fun t' : List (List Int) × List Int × Int × Int => c < w ∧ t'.2.2.2 = ((c + 1 : Nat) : Int) ∧ ∃ k B col, Ech p n w A (t'.1, t'.2.1, t'.2.2.1) k B col (c + 1)) (fun o => ∃ k B col, Ech p n w A o k B col w)) := by
        intro T1 q1 hT1 hq1 hqq
        have hB1 : ∀ r' j, r' < n → j < w → 0 ≤ sw B k (k + r) r' j ∧ sw B k (k + r) r' j < p := by
          intro r' j hr' hj
          unfold sw
          split
          · exact h2.rng _ _ (by omega) hj
          · split
            · exact h2.rng _ _ hkn hj
            · exact h2.rng _ _ hr' hj
        have hpv : sw B k (k + r) k c = B (k + r) c := by unfold sw; rw [if_pos rfl]
        have hb := hB1 k c hkn hcw
        obtain ⟨f, hf1, hf2, hf3⟩ := inverse_ok hP (a := sw B k (k + r) k c) ⟨by rw [hpv] at hb ⊢; omega, hb.2⟩
        have hfc : Cg p (sw B k (k + r) k c * f) 1 := by
          have e1 : (1 : Int) % p = 1 := Int.emod_eq_of_lt (by omega) (by omega)
          exact Cg.iff.2 (by rw [hf3, e1])
        unfold modular_echelon_j162
        rw [h4.1, ret_bind]; refine hT1.get hkn fun l1 hl1 hl1' => ?_
        rw [ret_bind]; refine hl1'.get hcw ?_
        rw [wmr hm hq1 hb, obs, ret_bind]; refine hT1.get hkn fun l2 hl2 hl2' => ?_
        rw [ret_bind]; refine hl2'.get hcw ?_
        rw [hf1, obs, ret_bind]; refine hT1.get hkn fun l3 hl3 hl3' => ?_
        rw [ret_bind]
        refine (scale_ok (by omega) hm hT1 hkn (fun j hj => hB1 k j hkn hj) hf2 hl3'.1 h4.1 hw).mono fun T2 hT2 => ?_
        rw [ret_bind]
        refine (elim_ok (by omega) hm hT2 hkn hcw (fun r' j hr' hj => ?_) hT2.1 h4.1 hw hn2).mono fun T3 hT3 => ?_
        · by_cases e : r' = k
          · subst e; rw [up_in]; exact mod_rng _ (by omega)
          · rw [up_out e]; exact hB1 r' j hr' hj
        rw [ret_bind, ret_app]
        have := h2.kc
        refine ⟨by rw [h4.1]; simp only [List.length_cons, List.length_nil]; omega, _, rfl, hcw, nxt, k + 1, _, _, hT3, h2.next hp hcw hkn (by omega) (by omega) hf3, h3.trans (Rq.sw3 hkn (by omega) hfc), h4.push, mod_rng _ (by omega), ?_, ?_⟩
        · refine (det_next hkn (show k + r < n by omega) hfc h6.1).trans ?_
          refine Cg.mul ?_ (Cg.refl p _)
          exact ((hqq.symm.mul (Cg.refl p _))).trans (Cg.mod p _).symm
        · obtain ⟨u, hu⟩ := h6.2
          refine ⟨(if k + r = k then u else -u) * f, ?_⟩
          have e1 : Cg p (q1 * (if k + r = k then u else -u)) 1 := by
            refine (hqq.mul (Cg.refl p _)).trans ?_
            split
            · exact hu
            · rw [Int.neg_mul_neg]; exact hu
          have e2 := e1.mul hfc
          rw [Int.one_mul] at e2
          refine ((Cg.mod p _).mul (Cg.refl p _)).trans ?_
          have e3 : q1 * sw B k (k + r) k c * ((if k + r = k then u else -u) * f) = q1 * (if k + r = k then u else -u) * (sw B k (k + r) k c * f) := by grind
          show Cg p (q1 * sw B k (k + r) k c * ((if k + r = k then u else -u) * f)) 1
          rw [e3]; exact e2
      rw [ret_if]
      refine ⟨fun hgt => ?_, fun hgt => ?_⟩
      · have hr0 : 0 < r := by omega
        have ecast : (k : Int) + (r : Int) = ((k + r : Nat) : Int) := by omega
        rw [ecast, ret_bind]; refine h1.get (show k + r < n by omega) fun la hla hla' => ?_
        rw [ret_bind]; refine h1.get hkn fun lk hlk hlk' => ?_
        rw [ret_bind, ret_set]
        refine ⟨by omega, by rw [h1.1]; omega, ?_⟩
        rw [ret_bind, ret_set]
        refine ⟨by omega, by rw [List.length_set, h1.1]; omega, ?_⟩
        rw [mod_ok (by omega) hm, obs]
        refine key _ _ ?_ (mod_rng _ (by omega)) ?_
        · rw [Int.toNat_natCast, Int.toNat_natCast]
          refine ((h1.set hkn hla').set (show k + r < n by omega) hlk').congr fun r' j _ _ => ?_
          unfold sw up
          by_cases e1 : r' = k
          · rw [if_neg (by omega), if_pos e1, if_pos e1]
          · by_cases e2 : r' = k + r
            · rw [if_pos e2, if_neg e1, if_pos e2]
            · rw [if_neg e2, if_neg e1, if_neg e1, if_neg e2]
        · rw [if_neg (by omega)]
          have : wneg .i64 q = -q := IntWalk.i64_in _ ⟨by omega, by omega⟩
          rw [this]
          exact Cg.mod p _
      · have hr0 : r = 0 := by omega
        subst hr0
        refine key _ _ ?_ h5 ?_
        · rw [Nat.add_zero, sw_self]; exact h1
        · rw [if_pos (Nat.add_zero k)]; exact .refl _ _
  · rintro ⟨T', pv, q⟩ h
    exact ⟨_, rfl, h⟩
end Km
