/- Tables of numbers; a row minus a multiple of another one, divided exactly. -/
import Derived.Test.YtpfmbaidflhamaaGreatDoorQzA
import Derived.Test.YtpfmbaidflhamaaGreatDoorQzB
import Derived.KernelRfl
import Derived.Test.YtpfmbaidflhamaaGreatDoorSxR
set_option linter.unusedVariables false
set_option linter.unusedSimpArgs false
set_option maxHeartbeats 4000000
namespace Km
open Sx Go M Vc Lm Dt
abbrev Nb := Bool × List Int
/-- a row told by a function -/
def Lg (l : List Nb) (w : Nat) (f : Nat → Int) : Prop := l.length = w ∧ ∀ c, c < w → ∃ z, l[c]? = some z ∧ Bg (f c) z.1 z.2
/-- a table told by a matrix -/
def Tg (T : List (List Nb)) (n w : Nat) (A : Mx) : Prop := T.length = n ∧ ∀ r, r < n → ∃ l, T[r]? = some l ∧ Lg l w (A r)
theorem Lg.congr {l : List Nb} {w : Nat} {f g : Nat → Int} (h : Lg l w f) (e : ∀ c, c < w → f c = g c) : Lg l w g := ⟨h.1, fun c hc => by obtain ⟨z, h1, h2⟩ := h.2 c hc; exact ⟨z, h1, h2.cast (e c hc)⟩⟩
theorem Tg.congr {T : List (List Nb)} {n w : Nat} {A B : Mx} (h : Tg T n w A) (e : ∀ r c, r < n → c < w → A r c = B r c) : Tg T n w B := ⟨h.1, fun r hr => by obtain ⟨l, h1, h2⟩ := h.2 r hr; exact ⟨l, h1, h2.congr fun c hc => e r c hr hc⟩⟩
theorem Lg.set {l : List Nb} {w : Nat} {f : Nat → Int} (h : Lg l w f) {c : Nat} (hc : c < w) {z : Nb} {v : Int} (hz : Bg v z.1 z.2) : Lg (l.set c z) w (fun j => if j = c then v else f j) := by
  refine ⟨by rw [List.length_set]; exact h.1, fun j hj => ?_⟩
  by_cases e : j = c
  · subst e
    exact ⟨z, by rw [List.getElem?_set_self]; rw [h.1]; exact hc, hz.cast (show v = (if j = j then v else f j) from (if_pos rfl).symm)⟩
  · obtain ⟨y, h1, h2⟩ := h.2 j hj
    exact ⟨y, by rw [List.getElem?_set_ne (fun h => e h.symm)]; exact h1, h2.cast (show f j = (if j = c then v else f j) from (if_neg e).symm)⟩
theorem Tg.set {T : List (List Nb)} {n w : Nat} {A : Mx} (h : Tg T n w A) {k : Nat} (hk : k < n) {l : List Nb} {g : Nat → Int} (hl : Lg l w g) : Tg (T.set k l) n w (up A k g) := by
  refine ⟨by rw [List.length_set]; exact h.1, fun r hr => ?_⟩
  by_cases e : r = k
  · subst e
    exact ⟨l, by rw [List.getElem?_set_self]; rw [h.1]; exact hk, hl.congr fun c _ => up_in.symm⟩
  · obtain ⟨m, h1, h2⟩ := h.2 r hr
    exact ⟨m, by rw [List.getElem?_set_ne (fun h => e h.symm)]; exact h1, h2.congr fun c _ => (up_out e).symm⟩
theorem at_some {α : Type} {l : List α} {k : Nat} {x : α} (hx : l[k]? = some x) {i : Int} (hi : i = (k : Int)) : getI l i = some x := by
  subst hi
  have := (List.getElem?_eq_some_iff.1 hx).1
  exact Ret.eq (by rw [ret_get]; exact ⟨by omega, by omega, fun y hy => by rw [Int.toNat_natCast] at hy; exact Option.some.inj (hy.symm.trans hx)⟩)
theorem set_some {α : Type} {l : List α} {k : Nat} {x : α} (hk : k < l.length) {i : Int} (hi : i = (k : Int)) : setI l i x = some (l.set k x) := by
  subst hi
  exact Ret.eq (by rw [ret_set, Int.toNat_natCast]; exact ⟨by omega, by omega, rfl⟩)
theorem Lg.at {l : List Nb} {w : Nat} {f : Nat → Int} (h : Lg l w f) {c : Nat} (hc : c < w) {i : Int} (hi : i = (c : Int)) : ∃ z, getI l i = some z ∧ Bg (f c) z.1 z.2 := by
  obtain ⟨z, h1, h2⟩ := h.2 c hc
  exact ⟨z, at_some h1 hi, h2⟩
theorem Tg.at {T : List (List Nb)} {n w : Nat} {A : Mx} (h : Tg T n w A) {r : Nat} (hr : r < n) {i : Int} (hi : i = (r : Int)) : ∃ l, getI T i = some l ∧ Lg l w (A r) := by
  obtain ⟨l, h1, h2⟩ := h.2 r hr
  exact ⟨l, at_some h1 hi, h2⟩
theorem negP_bg {s : Bool} {a : List Int} (ha : LW a) (hn : a.length ≤ 1000000) : Ret (integer_Neg s a) (fun r => Bg (- sv s a) r.1 r.2) := by
  unfold integer_Neg
  rw [clone_ok hn, obs, ret_bind]
  exact (big_bg (!s) ha hn).mono fun r hr => ⟨_, rfl, hr.cast (sv_not s a)⟩
theorem absP_bg {s : Bool} {a : List Int} (ha : LW a) (hn : a.length ≤ 1000000) : Ret (integer_Abs s a) (fun r => Bg (lv a) r.1 r.2) := by
  unfold integer_Abs
  rw [clone_ok hn, obs, ret_bind]
  exact (big_bg false ha hn).mono fun r hr => ⟨_, rfl, hr⟩
theorem quoP_bg {s t : Bool} {a b : List Int} (ha : LW a) (hb : LW b) (hn : a.length ≤ 800) (hm : b.length ≤ 800) {h : Int} (hne : sv t b ≠ 0) (he : sv s a = sv t b * h) : Ret (integer_Quo s a t b) (fun r => Bg h r.1 r.2.1 ∧ r.2.2 = 0) := by
  unfold integer_Quo
  rw [ret_bind]
  refine (divmod_bg (s := s) (t := t) ha hb hn hm hne).mono ?_
  rintro ⟨a, b, c, d, e⟩ ⟨hq, hr, h0⟩
  simp only at hq hr h0 ⊢
  subst h0
  rw [he, Int.mul_emod_right] at hr
  rw [he, Int.mul_ediv_cancel_left _ hne] at hq
  have hd : d = [] := (lv_zero hr.1 hr.2.1).1 (by rw [hr.abs]; simp)
  subst hd
  rw [if_neg (by simp)]
  exact ⟨_, rfl, hq, rfl⟩
theorem Bg.lenB {v : Int} {s : Bool} {l : List Int} (h : Bg v s l) {M : Int} {m : Nat} (hb : Bd M v) (hM : M < pw m) : l.length ≤ m := h.len (by have := hb.1; omega) (by have := hb.2; omega)
theorem sweep_ok {row top : List Nb} {w : Nat} {f g h : Nat → Int} {M a p d : Int} (hM : M < pw 40) (hrow : Lg row w f) (htop : Lg top w g) {za zp zd : Nb} (ha : Bg a za.1 za.2) (hp : Bg p zp.1 zp.2) (hd : Bg d zd.1 zd.2) (hd0 : d ≠ 0)
    (bf : ∀ j, j < w → Bd M (f j)) (bg : ∀ j, j < w → Bd M (g j)) (ba : Bd M a) (bp : Bd M p) (bd : Bd M d) (he : ∀ j, j < w → p * f j - a * g j = d * h j) (hw : w ≤ 1000) :
    Ret (exact_sweep row top za.1 za.2 zp.1 zp.2 zd.1 zd.2) (fun r => Lg r w h) := by
  unfold exact_sweep
  rw [ret_bind]
  have hM0 := ba.nn
  have la := ha.lenB ba hM
  have lp := hp.lenB bp hM
  have ld := hd.lenB bd hM
  have hMM : M * M < pw 80 := by
    have h1 : M * M ≤ M * pw 40 := Int.mul_le_mul_of_nonneg_left (by omega) hM0
    have h2 : M * pw 40 < pw 40 * pw 40 := Int.mul_lt_mul_of_pos_right hM (pw_pos 40)
    have h3 : pw 80 = pw 40 * pw 40 := pw_add 40 40
    omega
  refine (ret_loop (Post := fun r : List Nb => Lg r w h) w (fun k (s : List Nb × Int) => s.2 = (k : Int) ∧ Lg s.1 w (fun j => if j < k then h j else f j)) ⟨rfl, hrow.congr fun c _ => by rw [if_neg (by omega)]⟩ ?_ (by omega)).mono fun r hr => ⟨_, rfl, hr⟩
  rintro k ⟨r, _⟩ hk ⟨rfl, hI⟩
  simp only at hI
  unfold exact_sweep_l1
  simp only
  rw [htop.1, ret_if]
  refine ⟨fun hlt => ?_, fun hge => ⟨_, rfl, hI.congr fun c hc => by rw [if_pos (by omega)]⟩⟩
  have hkw : k < w := by omega
  obtain ⟨y, hy, hyB⟩ := htop.at hkw rfl
  obtain ⟨x, hx, hxB⟩ := hI.at hkw rfl
  have hxB : Bg (f k) x.1 x.2 := hxB.cast (show (if k < k then h k else f k) = f k from if_neg (by omega))
  have lx := hxB.lenB (bf k hkw) hM
  have ly := hyB.lenB (bg k hkw) hM
  rw [hy, obs, hx, obs, ret_bind]
  refine (mul_bg (s := zp.1) (t := x.1) hp.1 hxB.1 (by omega) (by omega)).mono fun u hu => ?_
  rw [hp.sv, hxB.sv] at hu
  have lu := hu.lenB (bp.mul (bf k hkw)) hMM
  rw [ret_bind]
  refine (mul_bg (s := za.1) (t := y.1) ha.1 hyB.1 (by omega) (by omega)).mono fun v hv => ?_
  rw [ha.sv, hyB.sv] at hv
  have lv' := hv.lenB (ba.mul (bg k hkw)) hMM
  rw [ret_bind]
  refine (sub_bg (s := u.1) (t := v.1) hu.1 hv.1 (by omega) (by omega)).mono fun q hq => ?_
  rw [hu.sv, hv.sv] at hq
  have h2M : M * M + M * M < pw 81 := by
    have := pw_pos 80
    have e : pw 81 = B * pw 80 := rfl
    have e2 : B = 4294967296 := rfl
    rw [e, e2]; omega
  have lq := hq.lenB ((bp.mul (bf k hkw)).sub (ba.mul (bg k hkw))) h2M
  rw [ret_bind]
  refine (quoP_bg (s := q.1) (t := zd.1) (h := h k) hq.1 hd.1 (by omega) (by omega) (by rw [hd.sv]; exact hd0) (by rw [hq.sv, hd.sv]; exact he k hkw)).mono ?_
  rintro ⟨t1, t2, t3⟩ ⟨ht, _⟩
  simp only at ht ⊢
  rw [set_some (by rw [hI.1]; exact hkw) rfl, obs]
  refine ⟨_, rfl, hkw, by show wa .i64 (k : Int) 1 = _; rw [wa_i (by omega) (by omega)]; rfl, ?_⟩
  refine (hI.set hkw (z := (t1, t2)) ht).congr fun c hc => ?_
  by_cases e : c = k
  · subst e; rw [if_pos rfl, if_pos (by omega)]
  · rw [if_neg e]
    by_cases hck : c < k
    · rw [if_pos hck, if_pos (by omega)]
    · rw [if_neg hck, if_neg (by omega)]
end Km
/- One step of the elimination without fractions; the whole of it. -/
namespace Km
open Sx Go M Vc Lm Dt
/-- what the elimination meets is bounded -/
def Okb (n w : Nat) (A : Mx) (M : Int) : Prop := ∀ (A' : Mx) (cl : Nat → Nat) (q i j : Nat), (∀ i, i < n → ∃ i', i' < n ∧ ∀ j, A' i j = A i' j) → q ≤ n → (∀ s, s < q → cl s < w) → i < n → j < w → Bd M (Rk A' cl q i j) ∧ Bd M (det q (Pm_ A' cl))
theorem pow_mono {X : Int} (hX : 1 ≤ X) {m n : Nat} (h : m ≤ n) : X ^ m ≤ X ^ n := by
  obtain ⟨d, rfl⟩ := Nat.exists_eq_add_of_le h
  induction d with
  | zero => exact Int.le_refl _
  | succ d ih =>
    have h1 := ih (by omega)
    have h2 := Dt.pow_nn (show 0 ≤ X by omega) (m + d)
    have h3 : X ^ (m + d) * 1 ≤ X ^ (m + d) * X := Int.mul_le_mul_of_nonneg_left hX h2
    rw [show m + (d + 1) = (m + d) + 1 by omega, Int.pow_succ]
    omega
theorem okb_of {n w K : Nat} {M : Int} {A : Mx} (hM : 1 ≤ M) (hK : 1 ≤ K) (hnK : n ≤ K) (hA : ∀ i j, i < n → j < w → Bd M (A i j)) : Okb n w A (2 * (K * M) ^ (n + 2)) := by
  intro A' cl q i j hp hq hc hi hj
  have hKM : 1 ≤ (K : Int) * M := by
    have : (1 : Int) * 1 ≤ K * M := Int.mul_le_mul (by omega) hM (by omega) (by omega)
    omega
  have hA' : ∀ i j, i < n → j < w → Bd M (A' i j) := by
    intro i j hi hj
    obtain ⟨i', h1, h2⟩ := hp i hi
    rw [h2]; exact hA i' j h1 hj
  obtain ⟨h1, h2⟩ := Rk_bd (K := K) (n := n) (w := w) (A := A') (col := cl) (k := q) (i := i) (j := j) hM hK hA' hq (by omega) hc hi hj
  have h3 := pow_mono hKM (show q + 2 ≤ n + 2 by omega)
  exact ⟨h1.mono (by omega), h2.mono (by omega)⟩
section
variable {n w cw : Nat} {A A' : Mx} {col : Nat → Nat} {k c : Nat} {sn M : Int}
theorem bar_rows (h : Bar n cw A A' col k c sn) : ∀ i, i < n → ∃ i', i' < n ∧ ∀ j, A' i j = A i' j := by
  obtain ⟨x, xi, hx, hA⟩ := h.perm
  exact fun i hi => ⟨x i, (hx i hi).1, fun j => hA i j hi⟩
theorem sw_rows (h : ∀ i, i < n → ∃ i', i' < n ∧ ∀ j, A' i j = A i' j) {a b : Nat} (ha : a < n) (hb : b < n) : ∀ i, i < n → ∃ i', i' < n ∧ ∀ j, sw A' a b i j = A i' j := by
  intro i hi
  by_cases e1 : i = a
  · obtain ⟨i', h1, h2⟩ := h b hb
    exact ⟨i', h1, fun j => by unfold sw; rw [if_pos e1]; exact h2 j⟩
  · by_cases e2 : i = b
    · obtain ⟨i', h1, h2⟩ := h a ha
      exact ⟨i', h1, fun j => by unfold sw; rw [if_neg e1, if_pos e2]; exact h2 j⟩
    · obtain ⟨i', h1, h2⟩ := h i hi
      exact ⟨i', h1, fun j => by unfold sw; rw [if_neg e1, if_neg e2]; exact h2 j⟩
theorem j1_ok (hM : M < pw 40) (hR : Okb n w A M) (h : Bar n cw A A' col k c sn) (hcw : cw ≤ w) (hw : w ≤ 1000) (hn : n ≤ 1000) (hc : c < cw) {a : Nat} (hka : k ≤ a) (han : a < n) (hne : Rk A' col k a c ≠ 0)
    {T : List (List Nb)} (hT : Tg T n w (Rk (sw A' k a) col k)) {pv : List Int} (hpv : pv.length ≤ 1000) {zd : Nb} (hd : Bg (det k (Pm_ A' col)) zd.1 zd.2) {s' : Int} :
    Ret (exact_reduced_step_j1 (k : Int) (c : Int) zd.1 zd.2 pv T s') (fun r => Tg r.1 n w (Rk (sw A' k a) (setC col k c) (k + 1)) ∧ r.2.1 = pv ++ [(c : Int)] ∧ Bg (det (k + 1) (Pm_ (sw A' k a) (setC col k c))) r.2.2.1 r.2.2.2.1 ∧ r.2.2.2.2 = s') := by
  obtain ⟨hB', hdet, htop, hstep⟩ := h.pivot hc hka han hne
  have hkn : k < n := by omega
  have hrows := bar_rows h
  have hrows' := sw_rows hrows hkn han
  have hlt : ∀ s, s < k → col s < w := fun s hs => by have := h.lt s hs; have := h.cw; omega
  have hlt' : ∀ s, s < k + 1 → setC col k c s < w := fun s hs => by have := hB'.lt s hs; have := hB'.cw; omega
  have bR : ∀ i j, i < n → j < w → Bd M (Rk (sw A' k a) col k i j) := fun i j hi hj => (hR _ _ _ _ _ hrows' h.kn hlt hi hj).1
  have bd : Bd M (det k (Pm_ A' col)) := (hR _ col k 0 c hrows h.kn hlt (by omega) (by omega)).2
  have hk : ∀ j, Rk (sw A' k a) col k k j = Rk A' col k a j := fun j => by rw [Rk_sw hka, if_pos rfl]
  unfold exact_reduced_step_j1
  obtain ⟨lk, h1, h2⟩ := hT.at hkn (i := (k : Int)) rfl
  obtain ⟨nx, h3, h4⟩ := h2.at (show c < w by omega) (i := (c : Int)) rfl
  rw [hk] at h4
  rw [h1, obs, h3, obs, ret_bind]
  refine (ret_loop (Post := fun r : List (List Nb) => Tg r n w (Rk (sw A' k a) (setC col k c) (k + 1))) n (fun i (s : List (List Nb) × Int) => s.2 = (i : Int) ∧ Tg s.1 n w (fun r j => if r < i ∧ r ≠ k then Rk (sw A' k a) (setC col k c) (k + 1) r j else Rk (sw A' k a) col k r j)) ⟨rfl, hT.congr fun r j _ _ => by rw [if_neg (by omega)]⟩ ?_ (by omega)).mono ?_
  · rintro i ⟨T', _⟩ hi ⟨rfl, hI⟩
    simp only at hI
    unfold exact_reduced_step_l4
    simp only
    rw [hT.1, ret_if]
    refine ⟨fun hlt2 => ?_, fun hge => ⟨_, rfl, hI.congr fun r j hr hj => ?_⟩⟩
    · have hin : i < n := by omega
      obtain ⟨row, hr1, hr2⟩ := hI.at hin (i := (i : Int)) rfl
      have hr2 : Lg row w (Rk (sw A' k a) col k i) := hr2.congr fun j _ => if_neg (by omega)
      have hwa : wa .i64 (i : Int) 1 = ((i + 1 : Nat) : Int) := by rw [wa_i (by omega) (by omega)]; rfl
      rw [hr1, obs, ret_if]
      unfold exact_reduced_step_j5
      rw [hwa]
      refine ⟨fun he => ⟨_, rfl, hin, rfl, hI.congr fun r j _ _ => ?_⟩, fun he => ?_⟩
      · have hik : i = k := by omega
        by_cases hc2 : r < i ∧ r ≠ k
        · rw [if_pos hc2, if_pos ⟨by omega, hc2.2⟩]
        · rw [if_neg hc2, if_neg (by omega)]
      · have hik : i ≠ k := by omega
        obtain ⟨top, ht1, ht2⟩ := hI.at hkn (i := (k : Int)) rfl
        have ht2 : Lg top w (Rk A' col k a) := ht2.congr fun j _ => (if_neg (by omega)).trans (hk j)
        obtain ⟨fz, hf1, hf2⟩ := hr2.at (show c < w by omega) (i := (c : Int)) rfl
        have hne2 : neI (i : Int) (k : Int) = some () := by unfold neI; rw [if_neg he]
        rw [ht1, obs, hf1, obs, hne2, obs, ret_bind]
        have bA : ∀ j, j < w → Bd M (Rk A' col k a j) := fun j hj => by rw [← hk]; exact bR k j hkn hj
        refine (sweep_ok (h := Rk (sw A' k a) (setC col k c) (k + 1) i) hM hr2 ht2 hf2 h4 hd h.d (fun j hj => bR i j hin hj) bA (bR i c hin (by omega)) (bA c (by omega)) bd (fun j hj => hstep i j hik) hw).mono fun row' hrow' => ?_
        rw [set_some (by rw [hI.1]; exact hin) rfl, obs]
        refine ⟨_, rfl, hin, rfl, (hI.set hin hrow').congr fun r j hr hj => ?_⟩
        by_cases e : r = i
        · subst e
          rw [up_in, if_pos ⟨by omega, hik⟩]
        · rw [up_out e]
          by_cases hc2 : r < i ∧ r ≠ k
          · rw [if_pos hc2, if_pos ⟨by omega, hc2.2⟩]
          · rw [if_neg hc2, if_neg (by omega)]
    · by_cases e : r = k
      · subst e
        rw [if_neg (by omega), hk]; exact (htop j).symm
      · rw [if_pos ⟨by omega, e⟩]
  · intro T' hT'
    rw [ret_bind, ret_app]
    refine ⟨by simp only [List.length_cons, List.length_nil]; omega, _, rfl, hT', rfl, ?_, rfl⟩
    rw [hdet]; exact h4
theorem step_ok (hM : M < pw 40) (hR : Okb n w A M) (h : Bar n cw A A' col k c sn) (hcw : cw ≤ w) (hw : w ≤ 1000) (hn : n ≤ 1000) (hc : c < cw) {a : Nat} (hka : k ≤ a) (han : a < n) (hne : Rk A' col k a c ≠ 0)
    {T : List (List Nb)} (hT : Tg T n w (Rk A' col k)) {pv : List Int} (hpv : pv.length ≤ 1000) {zd : Nb} (hd : Bg (det k (Pm_ A' col)) zd.1 zd.2) :
    Ret (exact_reduced_step T pv zd.1 zd.2 sn (c : Int) (k : Int) (a : Int)) (fun r => Tg r.1 n w (Rk (sw A' k a) (setC col k c) (k + 1)) ∧ r.2.1 = pv ++ [(c : Int)] ∧ Bg (det (k + 1) (Pm_ (sw A' k a) (setC col k c))) r.2.2.1 r.2.2.2.1 ∧ r.2.2.2.2 = (if a = k then sn else -sn)) := by
  have hkn : k < n := by omega
  unfold exact_reduced_step
  rw [ret_if]
  refine ⟨fun hlt => ?_, fun hge => ?_⟩
  · obtain ⟨la, h1, h2⟩ := hT.at han (i := (a : Int)) rfl
    obtain ⟨lk, h3, h4⟩ := hT.at hkn (i := (k : Int)) rfl
    rw [h1, obs, h3, obs, set_some (by rw [hT.1]; exact hkn) rfl, obs, set_some (by rw [List.length_set, hT.1]; exact han) rfl, obs]
    have hT' : Tg ((T.set k la).set a lk) n w (Rk (sw A' k a) col k) := by
      refine ((hT.set hkn h2).set han h4).congr fun r j hr hj => ?_
      rw [Rk_sw hka]
      by_cases e1 : r = k
      · subst e1; rw [if_pos rfl, up_out (by omega), up_in]
      · rw [if_neg e1]
        by_cases e2 : r = a
        · subst e2; rw [if_pos rfl, up_in]
        · rw [if_neg e2, up_out e2, up_out e1]
    have hs : wneg .i64 sn = -sn := by
      rcases h.sg.1 with rfl | rfl
      · exact IntWalk.i64_in _ ⟨by omega, by omega⟩
      · exact IntWalk.i64_in _ ⟨by omega, by omega⟩
    rw [hs, if_neg (by omega)]
    exact j1_ok hM hR h hcw hw hn hc hka han hne hT' hpv hd
  · have e : a = k := by omega
    subst e
    rw [if_pos rfl]
    refine j1_ok hM hR h hcw hw hn hc hka han hne ?_ hpv hd
    refine hT.congr fun r j _ _ => ?_
    rw [Rk_sw (Nat.le_refl _)]
    by_cases e1 : r = a
    · subst e1; rw [if_pos rfl]
    · rw [if_neg e1, if_neg e1]
/-- what is known between two columns -/
def EI (n w cw : Nat) (A : Mx) (c : Nat) (T : List (List Nb)) (pv : List Int) (zs : Bool) (zl : List Int) (sn : Int) : Prop :=
  ∃ A' col k, Bar n cw A A' col k c sn ∧ Tg T n w (Rk A' col k) ∧ pv = (List.range k).map (fun s => (col s : Int)) ∧ Bg (det k (Pm_ A' col)) zs zl
theorem eliminate_ok (hM : M < pw 40) (hR : Okb n w A M) (hcw : cw ≤ w) (hw : w ≤ 900) (hn : n ≤ 900) {T : List (List Nb)} (hT : Tg T n w A) :
    Ret (exact_eliminate T (cw : Int)) (fun r => EI n w cw A cw r.1 r.2.1 r.2.2.1 r.2.2.2.1 r.2.2.2.2) := by
  unfold exact_eliminate
  rw [ret_bind]
  refine (from_bg (n := 1) (by omega) (by omega)).mono fun one hone => ?_
  rw [ret_bind]
  refine (ret_loop (Post := fun r : List (List Nb) × List Int × Bool × List Int × Int => EI n w cw A cw r.1 r.2.1 r.2.2.1 r.2.2.2.1 r.2.2.2.2) cw (fun c (s : List (List Nb) × List Int × Bool × List Int × Int × Int) => s.2.2.2.2.2 = (c : Int) ∧ c ≤ cw ∧ EI n w cw A c s.1 s.2.1 s.2.2.1 s.2.2.2.1 s.2.2.2.2.1) ⟨rfl, by omega, A, id, 0, Bar.start, hT.congr fun r j _ _ => Rk_zero.symm, rfl, hone.cast (show (1 : Int) = det 0 (Pm_ A id) from rfl)⟩ ?_ (by omega)).mono fun r hr => ⟨_, rfl, hr⟩
  rintro c ⟨T, pv, zs, zl, sn, _⟩ hc ⟨rfl, hcc, A', col, k, hB, hT, hpv, hd⟩
  simp only at hB hT hpv hd
  unfold exact_eliminate_l9
  simp only
  rw [ret_if]
  refine ⟨fun hlt => ?_, fun hge => ⟨_, rfl, by have e : c = cw := (by omega); subst e; exact ⟨A', col, k, hB, hT, hpv, hd⟩⟩⟩
  have hccw : c < cw := by omega
  have hpl : pv.length = k := by rw [hpv, List.length_map, List.length_range]
  have hkn := hB.kn
  have hrows := bar_rows hB
  have hlt' : ∀ s, s < k → col s < w := fun s hs => by have := hB.lt s hs; have := hB.cw; omega
  have hwa : wa .i64 (c : Int) 1 = ((c + 1 : Nat) : Int) := by rw [wa_i (by omega) (by omega)]; rfl
  rw [ret_bind]
  refine (ret_loop (Post := fun o => (o = .inr () ∧ ∀ i, k ≤ i → i < n → Rk A' col k i c = 0) ∨ ∃ r, o = .inl r ∧ EI n w cw A (c + 1) r.1 r.2.1 r.2.2.1 r.2.2.2.1 r.2.2.2.2) (n - k) (fun i (s : Int) => s = ((k + i : Nat) : Int) ∧ k + i ≤ n ∧ ∀ j, k ≤ j → j < k + i → Rk A' col k j c = 0) ⟨by rw [hpl]; rfl, by omega, fun j h1 h2 => absurd h2 (by omega)⟩ ?_ (by omega)).mono ?_
  · rintro i _ hi ⟨rfl, hin, hz⟩
    unfold exact_eliminate_l13
    rw [hT.1, ret_if]
    refine ⟨fun hl2 => ?_, fun hge => ⟨_, rfl, .inl ⟨rfl, fun j h1 h2 => hz j h1 (by omega)⟩⟩⟩
    have han : k + i < n := by omega
    obtain ⟨row, h1, h2⟩ := hT.at han (i := ((k + i : Nat) : Int)) rfl
    obtain ⟨x, h3, h4⟩ := h2.at (show c < w by omega) (i := (c : Int)) rfl
    have bx := (hR _ _ _ _ _ hrows hkn hlt' han (show c < w by omega)).1
    have lx := h4.lenB bx hM
    rw [h1, obs, h3, obs, sign_bg h4.1 (by omega), obs, h4.sv, ret_if]
    refine ⟨fun h0 => ⟨_, rfl, by omega, ?_, by omega, fun j hj1 hj2 => ?_⟩, fun h0 => ?_⟩
    · rw [wa_i (by omega) (by omega)]; omega
    · by_cases e : j = k + i
      · subst e
        revert h0; split
        · omega
        · split
          · omega
          · intro _; omega
      · exact hz j hj1 (by omega)
    · have hne : Rk A' col k (k + i) c ≠ 0 := fun h => h0 (by rw [h]; rfl)
      have hpl' : (pv.length : Int) = (k : Int) := by rw [hpl]
      rw [hpl', ret_bind]
      refine (step_ok (zd := (zs, zl)) hM hR hB hcw (by omega) (by omega) hccw (by omega) han hne hT (by omega) hd).mono ?_
      rintro ⟨T', pv', zs', zl', sn'⟩ ⟨g1, g2, g3, g4⟩
      simp only at g1 g2 g3 g4 ⊢
      refine ⟨_, rfl, .inr ⟨_, rfl, sw A' k (k + i), setC col k c, k + 1, ?_, g1, ?_, g3⟩⟩
      · have := (hB.pivot hccw (by omega) han hne).1
        show Bar n cw A (sw A' k (k + i)) (setC col k c) (k + 1) (c + 1) sn'
        rw [g4]; exact this
      · show pv' = _
        rw [g2, hpv, List.range_succ, List.map_append]
        congr 1
        · refine List.map_congr_left fun s hs => ?_
          rw [setC_lt (List.mem_range.1 hs)]
        · show [(c : Int)] = [((setC col k c k : Nat) : Int)]
          rw [setC_at]
  · rintro _ (⟨rfl, hz⟩ | ⟨⟨T', pv', zs', zl', sn'⟩, rfl, hE⟩)
    · show Ret (exact_eliminate_j12 _ _ _ _ _ _) _
      unfold exact_eliminate_j12
      exact ⟨_, rfl, hccw, hwa, by omega, A', col, k, hB.none hccw hz, hT, hpv, hd⟩
    · show Ret (exact_eliminate_j12 _ _ _ _ _ _) _
      unfold exact_eliminate_j12
      exact ⟨_, rfl, hccw, hwa, by omega, hE⟩
end
end Km
/- Check, copies, Det, Solve. -/
namespace Km
open Sx Go M Vc Lm Dt
theorem Lg.snoc {l : List Nb} {k : Nat} {f : Nat → Int} (h : Lg l k f) {z : Nb} (hz : Bg (f k) z.1 z.2) : Lg (l ++ [z]) (k + 1) f := by
  refine ⟨by rw [List.length_append, h.1]; rfl, fun c hc => ?_⟩
  by_cases e : c < k
  · obtain ⟨y, h1, h2⟩ := h.2 c e
    exact ⟨y, by rw [List.getElem?_append_left (by rw [h.1]; exact e)]; exact h1, h2⟩
  · obtain rfl : c = k := by omega
    exact ⟨z, by rw [List.getElem?_append_right (by rw [h.1]; omega), h.1, Nat.sub_self]; rfl, hz⟩
theorem Tg.snoc {T : List (List Nb)} {k w : Nat} {A : Mx} (h : Tg T k w A) {l : List Nb} (hl : Lg l w (A k)) : Tg (T ++ [l]) (k + 1) w A := by
  refine ⟨by rw [List.length_append, h.1]; rfl, fun c hc => ?_⟩
  by_cases e : c < k
  · obtain ⟨y, h1, h2⟩ := h.2 c e
    exact ⟨y, by rw [List.getElem?_append_left (by rw [h.1]; exact e)]; exact h1, h2⟩
  · obtain rfl : c = k := by omega
    exact ⟨l, by rw [List.getElem?_append_right (by rw [h.1]; omega), h.1, Nat.sub_self]; rfl, hl⟩
section
variable {n w : Nat} {A : Mx} {T : List (List Nb)}
theorem xcolumns_ok (hT : Tg T n w A) : exact_columns T = some (if n = 0 then 0 else (w : Int)) := by
  unfold exact_columns
  by_cases h0 : n = 0
  · rw [if_pos (by rw [hT.1]; omega), if_pos h0]
  · rw [if_neg (by rw [hT.1]; omega), if_neg h0]
    obtain ⟨l, h1, h2⟩ := hT.at (r := 0) (by omega) (i := 0) rfl
    rw [h1, obs, h2.1]
theorem xcheck_ok (hT : Tg T n w A) (hn : n ≤ 16) (hw : w ≤ 16) : exact_check T = some 0 := by
  have hc : slices_ContainsFunc_apiBig T (if n = 0 then 0 else (w : Int)) = some false := by
    refine Ret.eq ?_
    unfold slices_ContainsFunc_apiBig slices_IndexFunc_apiBig
    rw [ret_bind, ret_bind]
    refine (ret_loop (Post := fun o => o = .inl ()) n (fun k (i : Int) => i = (k : Int)) rfl ?_ (by omega)).mono ?_
    · rintro k _ hk rfl
      unfold slices_IndexFunc_apiBig_l1
      rw [hT.1, ret_if]
      refine ⟨fun hlt => ?_, fun _ => ⟨_, rfl, rfl⟩⟩
      obtain ⟨l, h1, h2⟩ := hT.at (r := k) (by omega) (i := (k : Int)) rfl
      unfold exact_check_1
      rw [h1, obs, obs, h2.1, if_neg (show ¬ n = 0 by omega)]
      simp only [decide_true, Bool.not_true, Bool.false_eq_true, if_false]
      exact ⟨_, rfl, by omega, by show wa .i64 (k : Int) 1 = _; rw [wa_i (by omega) (by omega)]; rfl⟩
    · rintro _ rfl
      exact ⟨_, rfl, _, rfl, rfl⟩
  unfold exact_check
  rw [xcolumns_ok hT, obs, hc, obs, if_neg (by simp), hT.1, if_neg]
  simp only [Bool.or_eq_true, decide_eq_true_eq, not_or]
  split <;> omega
theorem xsquare_ok (hT : Tg T n n A) (hn : n ≤ 16) : exact_square T = some 0 := by
  unfold exact_square
  rw [xcheck_ok hT hn hn, obs, if_pos rfl, xcolumns_ok hT, obs, hT.1]
  have : (!(decide ((n : Int) = if n = 0 then 0 else (n : Int)))) = false := by split <;> simp <;> omega
  rw [this, obs, if_neg (by simp)]
theorem normZ_ok {v : Int} {z : Nb} (hz : Bg v z.1 z.2) (hl : z.2.length ≤ 1000000) : Ret (integer_Norm z.1 z.2) (fun r => Bg v r.1 r.2) := (normP_bg (s := z.1) hz.1 hl).mono fun r hr => by rw [hz.sv] at hr; exact hr
theorem rowtwin_ok {row : List Nb} {f : Nat → Int} {M : Int} (hM : M < pw 40) (hrow : Lg row w f) (bf : ∀ j, j < w → Bd M (f j)) (hw : w ≤ 1000) : Ret (loop (exact_twin_l6 row) ([], 0)) (fun o => Lg o w f) := by
  refine ret_loop (Post := fun o : List Nb => Lg o w f) w (fun k (s : List Nb × Int) => s.2 = (k : Int) ∧ Lg s.1 k f) ⟨rfl, rfl, fun c hc => absurd hc (by omega)⟩ ?_ (by omega)
  rintro k ⟨o, _⟩ hk ⟨rfl, hI⟩
  simp only at hI
  unfold exact_twin_l6
  simp only
  rw [hrow.1, ret_if]
  refine ⟨fun hlt => ?_, fun hge => ⟨_, rfl, by have e : k = w := (by omega); subst e; exact hI⟩⟩
  have hkw : k < w := by omega
  obtain ⟨z, h1, h2⟩ := hrow.at hkw (i := (k : Int)) rfl
  have lz := h2.lenB (bf k hkw) hM
  rw [h1, obs, ret_bind]
  refine (normZ_ok h2 (by omega)).mono fun r hr => ?_
  rw [ret_bind, ret_app]
  refine ⟨by rw [hI.1]; simp only [List.length_cons, List.length_nil]; omega, _, rfl, hkw, by show wa .i64 (k : Int) 1 = _; rw [wa_i (by omega) (by omega)]; rfl, hI.snoc (z := (r.1, r.2)) hr⟩
theorem twin0_ok {M : Int} (hM : M < pw 40) (hT : Tg T n w A) (bA : ∀ i j, i < n → j < w → Bd M (A i j)) (hn : n ≤ 1000) (hw : w ≤ 1000) : Ret (exact_twin T []) (fun o => Tg o n w A) := by
  unfold exact_twin
  rw [ret_bind]
  refine (ret_loop (Post := fun o : List (List Nb) => Tg o n w A) n (fun k (s : List (List Nb) × Int) => s.2 = (k : Int) ∧ Tg s.1 k w A) ⟨rfl, rfl, fun c hc => absurd hc (by omega)⟩ ?_ (by omega)).mono fun r hr => ⟨_, rfl, hr⟩
  rintro k ⟨o, _⟩ hk ⟨rfl, hI⟩
  simp only at hI
  unfold exact_twin_l5
  simp only
  rw [hT.1, ret_if]
  refine ⟨fun hlt => ?_, fun hge => ⟨_, rfl, by have e : k = n := (by omega); subst e; exact hI⟩⟩
  have hkn : k < n := by omega
  obtain ⟨row, h1, h2⟩ := hT.at hkn (i := (k : Int)) rfl
  rw [h1, obs, ret_bind]
  refine (rowtwin_ok hM h2 (fun j hj => bA k j hkn hj) hw).mono fun r hr => ?_
  rw [if_neg (by simp)]
  unfold exact_twin_j7
  rw [ret_bind, ret_app]
  exact ⟨by rw [hI.1]; simp only [List.length_cons, List.length_nil]; omega, _, rfl, hkn, by show wa .i64 (k : Int) 1 = _; rw [wa_i (by omega) (by omega)]; rfl, hI.snoc hr⟩
/-- a further column -/
def aug (A : Mx) (w : Nat) (g : Nat → Int) : Mx := fun r c => if c = w then g r else A r c
theorem twin1_ok {M : Int} (hM : M < pw 40) (hT : Tg T n w A) (bA : ∀ i j, i < n → j < w → Bd M (A i j)) {b : List Nb} {g : Nat → Int} (hb : Lg b n g) (bg : ∀ j, j < n → Bd M (g j)) (hn : n ≤ 1000) (hw : w ≤ 1000) : Ret (exact_twin T b) (fun o => Tg o n (w + 1) (aug A w g)) := by
  unfold exact_twin
  rw [ret_bind]
  refine (ret_loop (Post := fun o : List (List Nb) => Tg o n (w + 1) (aug A w g)) n (fun k (s : List (List Nb) × Int) => s.2 = (k : Int) ∧ Tg s.1 k (w + 1) (aug A w g)) ⟨rfl, rfl, fun c hc => absurd hc (by omega)⟩ ?_ (by omega)).mono fun r hr => ⟨_, rfl, hr⟩
  rintro k ⟨o, _⟩ hk ⟨rfl, hI⟩
  simp only at hI
  unfold exact_twin_l5
  simp only
  rw [hT.1, ret_if]
  refine ⟨fun hlt => ?_, fun hge => ⟨_, rfl, by have e : k = n := (by omega); subst e; exact hI⟩⟩
  have hkn : k < n := by omega
  obtain ⟨row, h1, h2⟩ := hT.at hkn (i := (k : Int)) rfl
  obtain ⟨z, h3, h4⟩ := hb.at hkn (i := (k : Int)) rfl
  have lz := h4.lenB (bg k hkn) hM
  rw [h1, obs, ret_bind]
  refine (rowtwin_ok hM h2 (fun j hj => bA k j hkn hj) hw).mono fun r hr => ?_
  rw [if_pos (by rw [hb.1]; omega), h3, obs, ret_bind]
  refine (normZ_ok h4 (by omega)).mono fun y hy => ?_
  rw [ret_bind, ret_app]
  refine ⟨by rw [hr.1]; simp only [List.length_cons, List.length_nil]; omega, ?_⟩
  unfold exact_twin_j7
  rw [ret_bind, ret_app]
  have hr' : Lg r w (aug A w g k) := hr.congr fun c hc => by unfold aug; rw [if_neg (by omega)]
  have hrow : Lg (r ++ [(y.1, y.2)]) (w + 1) (aug A w g k) := hr'.snoc (z := (y.1, y.2)) (hy.cast (by unfold aug; rw [if_pos rfl]))
  exact ⟨by rw [hI.1]; simp only [List.length_cons, List.length_nil]; omega, _, rfl, hkn, by show wa .i64 (k : Int) 1 = _; rw [wa_i (by omega) (by omega)]; rfl, hI.snoc hrow⟩
theorem turned_ok {R : List (List Nb)} {pv : List Int} {zs : Bool} {zl : List Int} {sg' D v : Int} {z : Nb} (hD : Bg D zs zl) (hz : Bg v z.1 z.2) (l1 : zl.length ≤ 1000) (l2 : z.2.length ≤ 1000) : Ret (exact_reduced_turned R pv zs zl sg' z.1 z.2) (fun r => Bg (if D < 0 then -v else v) r.1 r.2) := by
  unfold exact_reduced_turned
  rw [sign_bg hD.1 (by omega), obs, hD.sv, ret_if]
  refine ⟨fun hc => ?_, fun hc => ?_⟩
  · have hneg : D < 0 := by revert hc; split <;> (try split) <;> omega
    rw [ret_bind]
    refine (negP_bg (s := z.1) hz.1 (by omega)).mono fun r hr => ⟨_, rfl, hr.cast ?_⟩
    rw [hz.sv, if_pos hneg]
  · have hneg : ¬ D < 0 := fun h => hc (by rw [if_pos h]; omega)
    rw [ret_bind]
    refine (normP_bg (s := z.1) hz.1 (by omega)).mono fun r hr => ⟨_, rfl, hr.cast ?_⟩
    rw [hz.sv, if_neg hneg]
theorem xsolve_ok {M : Int} (hM : M < pw 40) (hT : Tg T n n A) (bA : ∀ i j, i < n → j < n → Bd M (A i j)) {b : List Nb} {g : Nat → Int} (hb : Lg b n g) (bg : ∀ j, j < n → Bd M (g j)) (hR : Okb n (n + 1) (aug A n g) M) (hn : n ≤ 16) (hn0 : 0 < n) :
    Ret (exact_Solve T b) (fun r => (r.2.2.2 = 9 ∧ det n A = 0) ∨ (r.2.2.2 = 0 ∧ det n A ≠ 0 ∧ ∃ x, Lg r.1 n x ∧ Bg (if det n A < 0 then - det n A else det n A) r.2.1 r.2.2.1 ∧ (∀ i, i < n → Bd M (x i)) ∧ ∀ i, i < n → sm n (fun j => A i j * x j) = (if det n A < 0 then - det n A else det n A) * g i)) := by
  have hda : det n (aug A n g) = det n A := det_congr fun i j hi hj => by unfold aug; rw [if_neg (by omega)]
  unfold exact_Solve
  rw [xsquare_ok hT hn, obs, if_pos rfl, hb.1, hT.1, if_pos rfl, ret_bind]
  refine (twin1_ok hM hT bA hb bg (by omega) (by omega)).mono fun T' hT' => ?_
  rw [ret_bind]
  refine (eliminate_ok (cw := n) hM hR (by omega) (by omega) (by omega) hT').mono ?_
  rintro ⟨R, pv, zs, zl, sn⟩ ⟨A', col, k, hB, hTR, hpv, hd⟩
  simp only at hB hTR hpv hd ⊢
  have hpl : pv.length = k := by rw [hpv, List.length_map, List.length_range]
  rw [hpl, ret_if]
  refine ⟨fun hlt => ⟨_, rfl, .inl ⟨rfl, ?_⟩⟩, fun hge => ?_⟩
  · rw [← hda]; exact hB.det0 (by omega)
  · have hkn := hB.kn
    obtain rfl : k = n := by omega
    have hdet := hB.det_ok
    rw [hda] at hdet
    have hsol := hB.solve
    have hdn := hB.d
    have hcols : ∀ s, s < k → col s < k + 1 := fun s hs => by have := hB.lt s hs; omega
    have bd := (hR A' col k 0 0 (bar_rows hB) (Nat.le_refl k) hcols hn0 (by omega)).2
    have bX : ∀ i, i < k → Bd M (Rk A' col k i k) := fun i hi => (hR A' col k i k (bar_rows hB) (Nat.le_refl k) hcols hi (by omega)).1
    have ld := hd.lenB bd hM
    generalize hD : det k (Pm_ A' col) = D at *
    have habs : (if det k A < 0 then - det k A else det k A) = if D < 0 then -D else D := by
      rcases hB.sg.1 with h | h
      · rw [h, Int.one_mul] at hdet; rw [hdet]
      · rw [h] at hdet
        have : D = - det k A := by omega
        rw [this]; split <;> split <;> omega
    have hne : det k A ≠ 0 := by
      intro h; rw [h, Int.mul_zero] at hdet; exact hdn hdet
    rw [ret_bind]
    refine (ret_loop (Post := fun o : List Nb => Lg o k (fun i => if D < 0 then - Rk A' col k i k else Rk A' col k i k)) k (fun i (s : List Nb × Int) => s.2 = (i : Int) ∧ Lg s.1 i (fun i => if D < 0 then - Rk A' col k i k else Rk A' col k i k)) ⟨rfl, rfl, fun c hc => absurd hc (by omega)⟩ ?_ (by omega)).mono ?_
    · rintro i ⟨o, _⟩ hi ⟨rfl, hI⟩
      simp only at hI
      unfold exact_Solve_l1
      simp only
      rw [hTR.1, hT.1, ret_if]
      refine ⟨fun hlt => ?_, fun hge2 => ⟨_, rfl, by have e : i = k := (by omega); subst e; exact hI⟩⟩
      have hik : i < k := by omega
      obtain ⟨row, h1, h2⟩ := hTR.at hik (i := (i : Int)) rfl
      obtain ⟨z, h3, h4⟩ := h2.at (show k < k + 1 by omega) (i := (k : Int)) rfl
      have lz := h4.lenB (bX i hik) hM
      rw [h1, obs, h3, obs, ret_bind]
      refine (turned_ok hd h4 (by omega) (by omega)).mono fun r hr => ?_
      rw [ret_bind, ret_app]
      exact ⟨by rw [hI.1]; simp only [List.length_cons, List.length_nil]; omega, _, rfl, hik, by show wa .i64 (i : Int) 1 = _; rw [wa_i (by omega) (by omega)]; rfl, hI.snoc (z := (r.1, r.2)) hr⟩
    · intro xs hxs
      rw [ret_bind]
      refine (absP_bg (s := zs) hd.1 (by omega)).mono fun r hr => ⟨_, rfl, .inr ⟨rfl, hne, _, hxs, ?_, ?_, ?_⟩⟩
      · rw [hd.abs] at hr
        rw [habs]; exact hr
      · intro i hi
        have := bX i hi
        split
        · exact this.neg
        · exact this
      · intro i hi
        rw [habs]
        have h1 := hsol i hi
        have e1 : sm k (fun j => aug A k g i j * Rk A' col k j k) = sm k (fun j => A i j * Rk A' col k j k) := sm_congr fun j hj => by unfold aug; rw [if_neg (by omega)]
        have e2 : aug A k g i k = g i := by unfold aug; rw [if_pos rfl]
        rw [e1, e2] at h1
        by_cases hn2 : D < 0
        · rw [if_pos hn2]
          have e3 : sm k (fun j => A i j * (if D < 0 then - Rk A' col k j k else Rk A' col k j k)) = -1 * sm k (fun j => A i j * Rk A' col k j k) := by
            rw [← sm_mul]; exact sm_congr fun j hj => by rw [if_pos hn2]; grind
          rw [e3, h1]; grind
        · rw [if_neg hn2]
          have e3 : sm k (fun j => A i j * (if D < 0 then - Rk A' col k j k else Rk A' col k j k)) = sm k (fun j => A i j * Rk A' col k j k) := sm_congr fun j hj => by rw [if_neg hn2]
          rw [e3, h1]
end
end Km
/- Products with vectors (the paper's), square matrices from numbers. -/
namespace Km
open Sx Go M Vc Lm Dt
theorem prod_lt {M : Int} (hM : M < pw 40) (h0 : 0 ≤ M) : M * M < pw 80 := by
  have h1 : M * M ≤ M * pw 40 := Int.mul_le_mul_of_nonneg_left (by omega) h0
  have h2 : M * pw 40 < pw 40 * pw 40 := Int.mul_lt_mul_of_pos_right hM (pw_pos 40)
  have h3 : pw 80 = pw 40 * pw 40 := pw_add 40 40
  omega
theorem sum_lt {M : Int} (hM : M < pw 40) (h0 : 0 ≤ M) {k : Nat} (hk : k ≤ 1000) : (k : Int) * (M * M) < pw 81 := by
  have h1 := prod_lt hM h0
  have h2 := Int.mul_nonneg h0 h0
  have h3 : (k : Int) * (M * M) ≤ 1000 * (M * M) := Int.mul_le_mul_of_nonneg_right (by omega) h2
  have e : pw 81 = B * pw 80 := rfl
  have e2 : B = 4294967296 := rfl
  have := pw_pos 80
  rw [e, e2]; omega
section
variable {n w : Nat} {A : Mx} {T : List (List Nb)} {M : Int}
theorem dot_ok {a b : List Nb} {f g : Nat → Int} (hM : M < pw 40) (ha : Lg a w f) (hb : Lg b w g) (bf : ∀ j, j < w → Bd M (f j)) (bg : ∀ j, j < w → Bd M (g j)) (hw : w ≤ 900) : Ret (sparseref08_Dot a b) (fun r => Bg (sm w fun j => f j * g j) r.1 r.2) := by
  unfold sparseref08_Dot
  rw [ret_bind]
  refine (ret_loop (Post := fun r : Bool × List Int => Bg (sm w fun j => f j * g j) r.1 r.2) w (fun k (s : Bool × List Int × Int) => s.2.2 = (k : Int) ∧ Bg (sm k fun j => f j * g j) s.1 s.2.1) ⟨rfl, bg_zero.cast (show (0 : Int) = sm 0 (fun j => f j * g j) from rfl)⟩ ?_ (by omega)).mono fun r hr => ⟨_, rfl, hr⟩
  rintro k ⟨zs, zl, _⟩ hk ⟨rfl, hI⟩
  simp only at hI
  unfold sparseref08_Dot_l1
  simp only
  rw [ha.1, ret_if]
  refine ⟨fun hlt => ?_, fun hge => ⟨_, rfl, by have e : k = w := (by omega); subst e; exact hI⟩⟩
  have hkw : k < w := by omega
  have hM0 := (bf k hkw).nn
  obtain ⟨x, hx, hxB⟩ := ha.at hkw (i := (k : Int)) rfl
  obtain ⟨y, hy, hyB⟩ := hb.at hkw (i := (k : Int)) rfl
  have lx := hxB.lenB (bf k hkw) hM
  have ly := hyB.lenB (bg k hkw) hM
  rw [hx, obs, hy, obs, ret_bind]
  refine (mulR_bg (s := x.1) (t := y.1) hxB.1 hyB.1 (by omega) (by omega)).mono fun u hu => ?_
  rw [hxB.sv, hyB.sv] at hu
  have lu := hu.lenB ((bf k hkw).mul (bg k hkw)) (prod_lt hM hM0)
  have ls := hI.lenB (sm_bd (Int.mul_nonneg hM0 hM0) fun j hj => (bf j (by omega)).mul (bg j (by omega))) (sum_lt hM hM0 (by omega))
  rw [ret_bind]
  refine (addR_bg (s := zs) (t := u.1) hI.1 hu.1 (by omega) (by omega)).mono fun v hv => ?_
  rw [hI.sv, hu.sv] at hv
  exact ⟨_, rfl, hkw, by show wa .i64 (k : Int) 1 = _; rw [wa_i (by omega) (by omega)]; rfl, hv⟩
theorem times08_ok {x : List Nb} {f : Nat → Int} (hM : M < pw 40) (hT : Tg T n w A) (hx : Lg x w f) (bA : ∀ i j, i < n → j < w → Bd M (A i j)) (bf : ∀ j, j < w → Bd M (f j)) (hn : n ≤ 900) (hw : w ≤ 900) : Ret (sparseref08_Times T x) (fun r => Lg r n (fun i => sm w fun j => A i j * f j)) := by
  unfold sparseref08_Times
  rw [ret_bind]
  refine (ret_loop (Post := fun r : List Nb => Lg r n (fun i => sm w fun j => A i j * f j)) n (fun k (s : List Nb × Int) => s.2 = (k : Int) ∧ Lg s.1 k (fun i => sm w fun j => A i j * f j)) ⟨rfl, rfl, fun c hc => absurd hc (by omega)⟩ ?_ (by omega)).mono fun r hr => ⟨_, rfl, hr⟩
  rintro k ⟨o, _⟩ hk ⟨rfl, hI⟩
  simp only at hI
  unfold sparseref08_Times_l1
  simp only
  rw [hT.1, ret_if]
  refine ⟨fun hlt => ?_, fun hge => ⟨_, rfl, by have e : k = n := (by omega); subst e; exact hI⟩⟩
  have hkn : k < n := by omega
  obtain ⟨row, h1, h2⟩ := hT.at hkn (i := (k : Int)) rfl
  rw [h1, obs, ret_bind]
  refine (dot_ok hM h2 hx (fun j hj => bA k j hkn hj) bf hw).mono fun r hr => ?_
  rw [ret_bind, ret_app]
  exact ⟨by rw [hI.1]; simp only [List.length_cons, List.length_nil]; omega, _, rfl, hkn, by show wa .i64 (k : Int) 1 = _; rw [wa_i (by omega) (by omega)]; rfl, hI.snoc (z := (r.1, r.2)) hr⟩
end
theorem place_eq (x : Int) {n : Int} (hn : 0 < n) (hm : n ≤ 1000000) : sparsekit_Place x n = some (x % 18446744073709551616 % n) ∧ 0 ≤ x % 18446744073709551616 % n ∧ x % 18446744073709551616 % n < n := by
  have h1 := Int.emod_nonneg (x % 18446744073709551616) (show n ≠ 0 by omega)
  have h2 := Int.emod_lt_of_pos (x % 18446744073709551616) hn
  refine ⟨?_, h1, h2⟩
  unfold sparsekit_Place
  have e : wc .u64 n = n := wc_u64_in ⟨by omega, by omega⟩
  have hwr : wr (x % 18446744073709551616) n = some (x % 18446744073709551616 % n) := by
    unfold wr
    rw [if_neg (by omega), Int.tmod_eq_emod_of_nonneg (by omega)]
  rw [e, wc_u64, hwr, obs, wc_i64_in ⟨by omega, by omega⟩]
/-- the entries of a square matrix made from numbers -/
def sqe (l : List Int) (n : Nat) : Mx := fun i j => if n * i + j < l.length then l.getD (n * i + j) 0 % 18446744073709551616 % 201 - 100 else 0
theorem sqe_bd (l : List Int) (n i j : Nat) : Bd 100 (sqe l n i j) := by
  unfold sqe
  split
  · have h1 := Int.emod_nonneg (l.getD (n * i + j) 0 % 18446744073709551616) (show (201 : Int) ≠ 0 by omega)
    have h2 := Int.emod_lt_of_pos (l.getD (n * i + j) 0 % 18446744073709551616) (show (0 : Int) < 201 by omega)
    exact ⟨by omega, by omega⟩
  · exact ⟨by omega, by omega⟩
theorem num_ok {v : Int} (h0 : -1000000 ≤ v) (h1 : v ≤ 1000000) : Ret (sparselaw08_num v) (fun r => Bg v r.1 r.2) := by
  unfold sparselaw08_num
  rw [ret_bind]
  exact (fromR_bg (n := v) (by omega) (by omega)).mono fun r hr => ⟨_, rfl, hr⟩
theorem square08_ok {l : List Int} (hl : l.length ≤ 1000) {n : Nat} (hn : n ≤ 16) : Ret (sparselaw08_square l (n : Int)) (fun T => Tg T n n (sqe l n)) := by
  unfold sparselaw08_square
  rw [ret_bind]
  refine (ret_loop (Post := fun T : List (List Nb) => Tg T n n (sqe l n)) n (fun k (s : List (List Nb) × Int) => s.2 = (k : Int) ∧ Tg s.1 k n (sqe l n)) ⟨rfl, rfl, fun c hc => absurd hc (by omega)⟩ ?_ (by omega)).mono fun r hr => ⟨_, rfl, hr⟩
  rintro k ⟨o, _⟩ hk ⟨rfl, hI⟩
  simp only at hI
  unfold sparselaw08_square_l9
  simp only
  rw [ret_if]
  refine ⟨fun hlt => ?_, fun hge => ⟨_, rfl, by have e : k = n := (by omega); subst e; exact hI⟩⟩
  have hkn : k < n := by omega
  rw [ret_bind]
  refine (ret_loop (Post := fun r : List Nb => Lg r n (sqe l n k)) n (fun j (s : List Nb × Int) => s.2 = (j : Int) ∧ Lg s.1 j (sqe l n k)) ⟨rfl, rfl, fun c hc => absurd hc (by omega)⟩ ?_ (by omega)).mono ?_
  · rintro j ⟨r, _⟩ hj ⟨rfl, hJ⟩
    simp only at hJ
    unfold sparselaw08_square_l12
    simp only
    rw [ret_if]
    refine ⟨fun hlt2 => ?_, fun hge => ⟨_, rfl, by have e : j = n := (by omega); subst e; exact hJ⟩⟩
    have hjn : j < n := by omega
    have hnk : n * k ≤ 16 * 16 := Nat.mul_le_mul hn (by omega)
    have hidx : wa .i64 (wm .i64 (n : Int) (k : Int)) (j : Int) = ((n * k + j : Nat) : Int) := by
      have e : (n : Int) * (k : Int) = ((n * k : Nat) : Int) := by push_cast; rfl
      rw [wm_i (by rw [e]; omega) (by rw [e]; omega), e, wa_i (by omega) (by omega)]; rfl
    have fin : ∀ v : Int, v = sqe l n k j → Ret (sparselaw08_square_j13 r (j : Int) v) (VQ (fun s : List Nb × Int => j < n ∧ s.2 = ((j + 1 : Nat) : Int) ∧ Lg s.1 (j + 1) (sqe l n k)) (fun r : List Nb => Lg r n (sqe l n k))) := by
      rintro v rfl
      have hb := sqe_bd l n k j
      unfold sparselaw08_square_j13
      rw [ret_bind]
      refine (num_ok (by have := hb.1; omega) (by have := hb.2; omega)).mono fun z hz => ?_
      rw [ret_bind, ret_app]
      exact ⟨by rw [hJ.1]; simp only [List.length_cons, List.length_nil]; omega, _, rfl, hjn, by show wa .i64 (j : Int) 1 = _; rw [wa_i (by omega) (by omega)]; rfl, hJ.snoc (z := (z.1, z.2)) hz⟩
    rw [hidx, ret_if]
    refine ⟨fun hin => ?_, fun hout => fin 0 (by unfold sqe; rw [if_neg (by omega)])⟩
    have hlt3 : n * k + j < l.length := by omega
    obtain ⟨p1, p2, p3⟩ := place_eq (l.getD (n * k + j) 0) (n := 201) (by omega) (by omega)
    have hg : getI l ((n * k + j : Nat) : Int) = some (l.getD (n * k + j) 0) := at_some (by rw [List.getD_eq_getElem?_getD, List.getElem?_eq_getElem hlt3]; rfl) rfl
    rw [hg, obs, p1, obs, ws_i (by omega) (by omega)]
    exact fin _ (by unfold sqe; rw [if_pos hlt3])
  · intro r hr
    rw [ret_bind, ret_app]
    exact ⟨by rw [hI.1]; simp only [List.length_cons, List.length_nil]; omega, _, rfl, hkn, by show wa .i64 (k : Int) 1 = _; rw [wa_i (by omega) (by omega)]; rfl, hI.snoc hr⟩
/-- the bound for small square matrices -/
def mb (n : Nat) : Int := 2 * (((4 : Nat) : Int) * 100) ^ (n + 2)
theorem mb_ok {n : Nat} (hn : n ≤ 4) : mb n < pw 40 ∧ 100 ≤ mb n := by
  have e : (((4 : Nat) : Int) * 100) = 400 := by decide
  have h1 := pow_mono (X := 400) (by omega) (show n + 2 ≤ 6 by omega)
  have h2 := pow_mono (X := 400) (by omega) (show 1 ≤ n + 2 by omega)
  have h3 : pw 2 ≤ pw 40 := pw_mono (by omega)
  have h4 : (2 : Int) * 400 ^ 6 < pw 2 := by decide
  have h5 : (400 : Int) ^ 1 = 400 := by decide
  unfold mb
  rw [e]
  exact ⟨by omega, by omega⟩
theorem sqe_okb {l : List Int} {n w : Nat} {A : Mx} (hn : n ≤ 4) (hA : ∀ i j, i < n → j < w → Bd 100 (A i j)) : Okb n w A (mb n) := okb_of (K := 4) (M := 100) (by omega) (by omega) hn hA
end Km
/- Rank and Kernel of exact matrices. -/
namespace Km
open Sx Go M Vc Lm Dt
/-- the vector of the kernel on its way -/
def vk (fr : Nat) (a : Int) (col : Nat → Nat) (X : Nat → Int) : Nat → Nat → Int
  | 0, j => if j = fr then a else 0
  | i + 1, j => if j = col i then X i else vk fr a col X i j
section
variable {fr k : Nat} {a : Int} {col : Nat → Nat} {X : Nat → Int}
theorem vk_fr : ∀ i, (∀ s, s < i → col s ≠ fr) → vk fr a col X i fr = a
  | 0, _ => if_pos rfl
  | i + 1, h => (if_neg (fun e => h i (by omega) e.symm)).trans (vk_fr i fun s hs => h s (by omega))
theorem vk_col : ∀ i, (∀ s t, s < t → t < i → col s < col t) → ∀ s, s < i → vk fr a col X i (col s) = X s
  | 0, _, s, hs => absurd hs (by omega)
  | i + 1, h, s, hs => by
    show (if col s = col i then X i else vk fr a col X i (col s)) = X s
    by_cases e : s = i
    · subst e; rw [if_pos rfl]
    · have := h s i (by omega) (by omega)
      rw [if_neg (by omega)]
      exact vk_col i (fun s t h1 h2 => h s t h1 (by omega)) s (by omega)
theorem vk_no {j : Nat} (hj : j ≠ fr) : ∀ i, (∀ s, s < i → col s ≠ j) → vk fr a col X i j = 0
  | 0, _ => if_neg hj
  | i + 1, h => (if_neg (fun e => h i (by omega) e.symm)).trans (vk_no hj i fun s hs => h s (by omega))
theorem vk_bd {M : Int} (hM : 0 ≤ M) (ha : Bd M a) : ∀ i, (∀ s, s < i → Bd M (X s)) → ∀ j, Bd M (vk fr a col X i j)
  | 0, _, j => by
    show Bd M (if j = fr then a else 0)
    split
    · exact ha
    · exact ⟨by omega, hM⟩
  | i + 1, h, j => by
    show Bd M (if j = col i then X i else vk fr a col X i j)
    split
    · exact h i (by omega)
    · exact vk_bd hM ha i (fun s hs => h s (by omega)) j
end
theorem Lg.zeros (w : Nat) : Lg (List.replicate w ((false, []) : Nb)) w (fun _ => 0) := ⟨List.length_replicate .., fun c hc => ⟨(false, []), by rw [List.getElem?_replicate, if_pos hc], bg_zero⟩⟩
theorem gcd_le {x y : Int} (hx : 0 < x) : 0 < ((Int.gcd x y : Nat) : Int) ∧ ((Int.gcd x y : Nat) : Int) ≤ x := by
  have h1 : ((Int.gcd x y : Nat) : Int) ∣ x := Int.gcd_dvd_left ..
  have h2 := Int.le_of_dvd hx h1
  have h3 : Int.gcd x y ≠ 0 := by
    intro h
    rw [Int.gcd_eq_zero_iff] at h
    omega
  omega
section
variable {n w : Nat} {A : Mx} {T : List (List Nb)} {M : Int}
/-- what Kernel and Rank return -/
def KR (n w : Nat) (A : Mx) (M : Int) (l : List Nb) (k : Nat) : Prop :=
  (∃ A' col sn, Bar n w A A' col k w sn) ∧ ((l = [] ∧ k = w) ∨ (k < w ∧ ∃ u, Lg l w u ∧ (∀ j, j < w → Bd M (u j)) ∧ (∀ r, r < n → sm w (fun j => A r j * u j) = 0) ∧ ∀ d, (∀ j, j < w → d ∣ u j) → d ∣ 1))
theorem kernel_ok (hM : M < pw 40) (hR : Okb n w A M) (hT : Tg T n w A) (bA : ∀ i j, i < n → j < w → Bd M (A i j)) (hn : n ≤ 16) (hw : w ≤ 16) (hn0 : 0 < n) (hw0 : 0 < w) :
    ∃ l k, exact_Kernel T = some (l, 0) ∧ exact_Rank T = some (((k : Nat) : Int), 0) ∧ KR n w A M l k := by
  obtain ⟨T', ht, hT'⟩ := twin0_ok hM hT bA (by omega) (by omega)
  obtain ⟨⟨R, pv, zs, zl, sn⟩, hel, A', col, k, hB, hTR, hpv, hd⟩ := eliminate_ok (cw := w) hM hR (Nat.le_refl w) (by omega) (by omega) hT'
  simp only at hB hTR hpv hd
  have hpl : pv.length = k := by rw [hpv, List.length_map, List.length_range]
  have hcol : exact_columns T = some (w : Int) := by rw [xcolumns_ok hT, if_neg (by omega)]
  have hchk := xcheck_ok hT hn hw
  have hrank : exact_Rank T = some ((k : Int), 0) := by
    unfold exact_Rank
    rw [hchk, obs, if_pos rfl, ht, obs, hcol, obs, hel, obs]
    simp only
    rw [hpl]
  have hpg : ∀ s, s < k → getI pv (s : Int) = some (col s : Int) := fun s hs => at_some (by rw [hpv, List.getElem?_map, List.getElem?_range hs]; rfl) rfl
  have hcols : ∀ s, s < k → col s < w := fun s hs => hB.lt s hs
  have hge : ∀ d s, s + d < k → col s + d ≤ col (s + d) := by
    intro d s
    induction d with
    | zero => intro _; exact Nat.le_refl _
    | succ d ih => intro hd; have := hB.asc (s + d) (s + (d + 1)) (by omega) (by omega); have := ih (by omega); omega
  have hkw : k ≤ w := by
    rcases Nat.eq_zero_or_pos k with h | h
    · omega
    · have h1 := hge (k - 1) 0 (by omega)
      have h2 := hcols (k - 1) (by omega)
      rw [Nat.zero_add] at h1
      omega
  have bD := (hR A' col k 0 0 (bar_rows hB) hB.kn hcols hn0 hw0).2
  have bX : ∀ i j, i < n → j < w → Bd M (Rk A' col k i j) := fun i j hi hj => (hR A' col k i j (bar_rows hB) hB.kn hcols hi hj).1
  have hM0 := bD.nn
  have ld := hd.lenB bD hM
  have hD0 := hB.d
  -- the first column that is no pivot
  have hfree : Ret (loop (exact_Kernel_l3 (R, pv, zs, zl, sn)) 0) (fun o => ∃ fr : Nat, o = (fr : Int) ∧ fr ≤ k ∧ (∀ s, s < fr → col s = s) ∧ (fr < k → col fr ≠ fr)) := by
    refine ret_loop (Post := fun o => ∃ fr : Nat, o = (fr : Int) ∧ fr ≤ k ∧ (∀ s, s < fr → col s = s) ∧ (fr < k → col fr ≠ fr)) k (fun j (i : Int) => i = (j : Int) ∧ j ≤ k ∧ ∀ s, s < j → col s = s) ⟨rfl, by omega, fun s hs => absurd hs (by omega)⟩ ?_ (by omega)
    rintro j _ hj ⟨rfl, hjk, hI⟩
    unfold exact_Kernel_l3
    simp only
    rw [hpl]
    by_cases hlt : j < k
    · rw [if_pos (by omega), hpg j hlt, obs, obs, ret_if]
      refine ⟨fun he => ⟨_, rfl, hlt, by rw [wa_i (by omega) (by omega)]; rfl, hlt, fun s hs => ?_⟩, fun he => ⟨_, rfl, j, rfl, hjk, hI, fun _ h => he (by rw [h]; simp)⟩⟩
      have he : (col j : Int) = (j : Int) := by simpa using he
      by_cases e : s = j
      · subst e; omega
      · exact hI s (by omega)
    · rw [if_neg (by omega), obs, if_neg (by simp)]
      exact ⟨_, rfl, j, rfl, hjk, hI, fun h => absurd h hlt⟩
  obtain ⟨_, hfl, fr, rfl, hfk, hfs, hfn⟩ := hfree
  have hpre : ∀ (f : Int → Option (List Nb × Int)), ((loop (exact_Kernel_l3 (R, pv, zs, zl, sn)) 0).bind f) = f (fr : Int) := fun f => by rw [hfl, obs]
  by_cases hfw : fr = w
  · refine ⟨[], k, ?_, hrank, ⟨A', col, sn, hB⟩, .inl ⟨rfl, by omega⟩⟩
    unfold exact_Kernel
    rw [hchk, obs, if_pos rfl, hcol, obs, ht, obs, hel, obs, hpre, if_pos (by omega)]
  · have hno : ∀ s, s < k → col s ≠ fr := by
      intro s hs
      by_cases h1 : s < fr
      · rw [hfs s h1]; omega
      · have h2 : fr < k := by omega
        have h3 := hfn h2
        have h4 := hge (s - fr) fr (by omega)
        rw [show fr + (s - fr) = s by omega] at h4
        have h5 : fr ≤ col fr := by
          rcases Nat.eq_zero_or_pos fr with h | h
          · omega
          · have h6 := hB.asc (fr - 1) fr (by omega) h2
            rw [hfs (fr - 1) (by omega)] at h6
            omega
        omega
    have hkw2 : k < w := by
      refine Classical.byContradiction fun hc => ?_
      have hk : k = w := by omega
      have h2 : fr < k := by omega
      have h4 := hge (k - 1 - fr) fr (by omega)
      rw [show fr + (k - 1 - fr) = k - 1 by omega] at h4
      have h5 : fr ≤ col fr := by
        rcases Nat.eq_zero_or_pos fr with h | h
        · omega
        · have h6 := hB.asc (fr - 1) fr (by omega) h2
          rw [hfs (fr - 1) (by omega)] at h6
          omega
      have h3 := hfn h2
      have h7 := hcols (k - 1) (by omega)
      omega
    have hfrw : fr < w := by omega
    generalize hDD : det k (Pm_ A' col) = D at *
    -- the entries
    let a : Int := if D < 0 then -D else D
    let X : Nat → Int := fun s => if D < 0 then Rk A' col k s fr else - Rk A' col k s fr
    have ha0 : 0 < a := by show 0 < (if D < 0 then -D else D); split <;> omega
    have ba : Bd M a := by show Bd M (if D < 0 then -D else D); split; exact bD.neg; exact bD
    have hkn := hB.kn
    have bXs : ∀ s, s < k → Bd M (X s) := fun s hs => by
      show Bd M (if D < 0 then Rk A' col k s fr else - Rk A' col k s fr)
      split
      · exact bX s fr (by omega) hfrw
      · exact (bX s fr (by omega) hfrw).neg
    have key : Ret (exact_Kernel T) (fun r => r.2 = 0 ∧ ∃ u, Lg r.1 w u ∧ (∀ j, j < w → Bd M (u j)) ∧ (∀ r, r < n → sm w (fun j => A r j * u j) = 0) ∧ ∀ d, (∀ j, j < w → d ∣ u j) → d ∣ 1) := by
      unfold exact_Kernel
      rw [hchk, obs, if_pos rfl, hcol, obs, ht, obs, hel, obs, hpre, if_neg (by omega), ret_bind, ret_mkL]
      refine ⟨by omega, by omega, ?_⟩
      rw [Int.toNat_natCast, ret_bind]
      refine (absP_bg (s := zs) hd.1 (by omega)).mono fun z hz => ?_
      have hz : Bg a z.1 z.2 := by rw [hd.abs] at hz; exact hz
      have h0 : Lg ((List.replicate w ((false, []) : Nb)).set fr (z.1, z.2)) w (vk fr a col X 0) := ((Lg.zeros w).set hfrw (z := (z.1, z.2)) hz).congr fun c _ => rfl
      rw [set_some (by rw [List.length_replicate]; exact hfrw) rfl, obs]
      obtain ⟨y, hy1, hy2⟩ := h0.at hfrw (i := (fr : Int)) rfl
      have hy2 : Bg a y.1 y.2 := hy2.cast (if_pos rfl)
      rw [hy1, obs, ret_bind]
      refine (ret_loop (Post := fun o : List Nb × Bool × List Int => Lg o.1 w (vk fr a col X k) ∧ ∃ G, Bg G o.2.1 o.2.2 ∧ (0 < G ∧ G ≤ a) ∧ (G ∣ a ∧ ∀ s, s < k → G ∣ X s) ∧ ∀ d, d ∣ a → (∀ s, s < k → d ∣ X s) → d ∣ G) k (fun i (s : List Nb × Bool × List Int × Int) => s.2.2.2 = (i : Int) ∧ Lg s.1 w (vk fr a col X i) ∧ ∃ G, Bg G s.2.1 s.2.2.1 ∧ (0 < G ∧ G ≤ a) ∧ (G ∣ a ∧ ∀ s, s < i → G ∣ X s) ∧ ∀ d, d ∣ a → (∀ s, s < i → d ∣ X s) → d ∣ G) ⟨rfl, h0, a, hy2, ⟨ha0, Int.le_refl a⟩, ⟨Int.dvd_refl a, fun s hs => absurd hs (by omega)⟩, fun d h _ => h⟩ ?_ (by omega)).mono ?_
      · rintro i ⟨o, gs, gl, _⟩ hi ⟨rfl, hI, G, hG, ⟨g0, g1⟩, ⟨g2, g3⟩, g4⟩
        simp only at hI hG
        unfold exact_Kernel_l4
        simp only
        rw [hpl, ret_if]
        refine ⟨fun hlt => ?_, fun hge2 => ⟨_, rfl, by have e : i = k := (by omega); subst e; exact ⟨hI, G, hG, ⟨g0, g1⟩, ⟨g2, g3⟩, g4⟩⟩⟩
        have hik : i < k := by omega
        obtain ⟨row, h1, h2⟩ := hTR.at (show i < n by omega) (i := (i : Int)) rfl
        obtain ⟨x, h3, h4⟩ := h2.at hfrw (i := (fr : Int)) rfl
        have lx := h4.lenB (bX i fr (by omega) hfrw) hM
        rw [hpg i hik, obs, h1, obs, h3, obs, ret_bind]
        refine (turned_ok hd h4 (by omega) (by omega)).mono fun t ht2 => ?_
        have bt : Bd M (if D < 0 then - Rk A' col k i fr else Rk A' col k i fr) := by
          split
          · exact (bX i fr (by omega) hfrw).neg
          · exact bX i fr (by omega) hfrw
        have lt := ht2.lenB bt hM
        rw [ret_bind]
        refine (negP_bg (s := t.1) ht2.1 (by omega)).mono fun q hq => ?_
        have hq : Bg (X i) q.1 q.2 := by
          rw [ht2.sv] at hq
          refine hq.cast ?_
          show -(if D < 0 then - Rk A' col k i fr else Rk A' col k i fr) = if D < 0 then Rk A' col k i fr else - Rk A' col k i fr
          split <;> omega
        have hci := hcols i hik
        rw [set_some (by rw [hI.1]; exact hci) rfl, obs]
        have hS : Lg (o.set (col i) (q.1, q.2)) w (vk fr a col X (i + 1)) := (hI.set hci (z := (q.1, q.2)) hq).congr fun c _ => rfl
        obtain ⟨y2, hy3, hy4⟩ := hS.at hci (i := (col i : Int)) rfl
        have hy4 : Bg (X i) y2.1 y2.2 := hy4.cast (if_pos rfl)
        have ly2 := hy4.lenB (bXs i hik) hM
        have lG := hG.lenB (show Bd M G from ⟨by omega, by have := ba.2; omega⟩) hM
        rw [hy3, obs, ret_bind]
        refine (gcdP_ok (s := gs) (t := y2.1) hG.1 hy4.1 (by omega) (by omega)).mono fun g hg => ?_
        rw [hG.sv, hy4.sv] at hg
        obtain ⟨e1, e2⟩ := gcd_le (x := G) (y := X i) g0
        have d1 : ((Int.gcd G (X i) : Nat) : Int) ∣ G := Int.gcd_dvd_left ..
        have d2 : ((Int.gcd G (X i) : Nat) : Int) ∣ X i := Int.gcd_dvd_right ..
        refine ⟨_, rfl, hik, by show wa .i64 (i : Int) 1 = _; rw [wa_i (by omega) (by omega)]; rfl, hS, _, hg, ⟨e1, by omega⟩, ⟨Int.dvd_trans d1 g2, fun s hs => ?_⟩, fun d hda hdx => ?_⟩
        · by_cases e : s = i
          · subst e; exact d2
          · exact Int.dvd_trans d1 (g3 s (by omega))
        · exact Int.dvd_coe_gcd (g4 d hda fun s hs => hdx s (by omega)) (hdx i (by omega))
      · rintro ⟨o, gs, gl⟩ ⟨hO, G, hG, ⟨g0, g1⟩, ⟨g2, g3⟩, g4⟩
        simp only at hO hG ⊢
        have bv : ∀ j, Bd M (vk fr a col X k j) := vk_bd hM0 ba k bXs
        have hGd : ∀ j, j < w → G ∣ vk fr a col X k j := by
          intro j hj
          by_cases e : j = fr
          · subst e; rw [vk_fr k hno]; exact g2
          · by_cases hex : ∃ s, s < k ∧ col s = j
            · obtain ⟨s, hs, rfl⟩ := hex
              rw [vk_col k hB.asc s hs]; exact g3 s hs
            · rw [vk_no e k fun s hs h => hex ⟨s, hs, h⟩]; exact Int.dvd_zero _
        have hue : ∀ j, j < w → G * (vk fr a col X k j / G) = vk fr a col X k j := fun j hj => Int.mul_ediv_cancel' (hGd j hj)
        have lG := hG.lenB (show Bd M G from ⟨by omega, by have := ba.2; omega⟩) hM
        have bu : ∀ j, j < w → Bd M (vk fr a col X k j / G) := by
          intro j hj
          have h1 := hue j hj
          have h2 := bv j
          generalize vk fr a col X k j / G = u at *
          rw [← h1] at h2
          rcases Int.le_total 0 u with h3 | h3
          · have : 1 * u ≤ G * u := Int.mul_le_mul_of_nonneg_right (by omega) h3
            exact ⟨by omega, by have := h2.2; omega⟩
          · have : G * u ≤ 1 * u := Int.mul_le_mul_of_nonpos_right (by omega) h3
            exact ⟨by have := h2.1; omega, by omega⟩
        rw [ret_bind]
        refine (ret_loop (Post := fun r : List Nb => Lg r w (fun j => vk fr a col X k j / G)) w (fun i (s : List Nb × Int) => s.2 = (i : Int) ∧ Lg s.1 w (fun j => if j < i then vk fr a col X k j / G else vk fr a col X k j)) ⟨rfl, hO.congr fun c _ => (if_neg (by omega)).symm⟩ ?_ (by omega)).mono ?_
        · rintro i ⟨r, _⟩ hi ⟨rfl, hI⟩
          simp only at hI
          unfold exact_Kernel_l5
          simp only
          rw [hO.1, ret_if]
          refine ⟨fun hlt => ?_, fun hge2 => ⟨_, rfl, hI.congr fun c hc => if_pos (by omega)⟩⟩
          have hiw : i < w := by omega
          obtain ⟨x, h1, h2⟩ := hI.at hiw (i := (i : Int)) rfl
          have h2 : Bg (vk fr a col X k i) x.1 x.2 := h2.cast (if_neg (by omega))
          have lx := h2.lenB (bv i) hM
          rw [h1, obs, ret_bind]
          refine (quoP_bg (s := x.1) (t := gs) (h := vk fr a col X k i / G) h2.1 hG.1 (by omega) (by omega) (by rw [hG.sv]; omega) (by rw [h2.sv, hG.sv, hue i hiw])).mono ?_
          rintro ⟨t1, t2, t3⟩ ⟨ht3, _⟩
          simp only at ht3 ⊢
          rw [set_some (by rw [hI.1]; exact hiw) rfl, obs]
          refine ⟨_, rfl, hiw, by show wa .i64 (i : Int) 1 = _; rw [wa_i (by omega) (by omega)]; rfl, (hI.set hiw (z := (t1, t2)) ht3).congr fun c hc => ?_⟩
          by_cases e : c = i
          · subst e; rw [if_pos rfl, if_pos (by omega)]
          · rw [if_neg e]
            by_cases hck : c < i
            · rw [if_pos hck, if_pos (by omega)]
            · rw [if_neg hck, if_neg (by omega)]
        · intro r hr
          refine ⟨_, rfl, rfl, _, hr, bu, fun i hi => ?_, fun d hdv => ?_⟩
          · -- mapped to zero
            have hker := hB.kernel hfrw hno (v := fun j => if D < 0 then - vk fr a col X k j else vk fr a col X k j) (by
              show (if D < 0 then - vk fr a col X k fr else vk fr a col X k fr) = det k (Pm_ A' col)
              rw [vk_fr k hno, hDD]
              show (if D < 0 then -(if D < 0 then -D else D) else (if D < 0 then -D else D)) = D
              split <;> omega) (fun s hs => by
              show (if D < 0 then - vk fr a col X k (col s) else vk fr a col X k (col s)) = _
              rw [vk_col k hB.asc s hs]
              show (if D < 0 then -(if D < 0 then Rk A' col k s fr else - Rk A' col k s fr) else (if D < 0 then Rk A' col k s fr else - Rk A' col k s fr)) = _
              split <;> omega) (fun j hj h1 h2 => by
              show (if D < 0 then - vk fr a col X k j else vk fr a col X k j) = 0
              rw [vk_no h1 k h2]; split <;> omega) i hi
            have e1 : sm w (fun j => A i j * vk fr a col X k j) = 0 := by
              by_cases hn2 : D < 0
              · have e2 : sm w (fun j => A i j * (if D < 0 then - vk fr a col X k j else vk fr a col X k j)) = -1 * sm w (fun j => A i j * vk fr a col X k j) := by
                  rw [← sm_mul]; exact sm_congr fun j _ => by rw [if_pos hn2]; grind
                rw [e2] at hker; omega
              · have e2 : sm w (fun j => A i j * (if D < 0 then - vk fr a col X k j else vk fr a col X k j)) = sm w (fun j => A i j * vk fr a col X k j) := sm_congr fun j _ => by rw [if_neg hn2]
                rw [e2] at hker; exact hker
            have e3 : sm w (fun j => A i j * vk fr a col X k j) = G * sm w (fun j => A i j * (vk fr a col X k j / G)) := by
              rw [← sm_mul]
              exact sm_congr fun j hj => by
                have h9 := hue j hj
                have h8 : A i j * vk fr a col X k j = A i j * (G * (vk fr a col X k j / G)) := by rw [h9]
                rw [h8]; grind
            rw [e3] at e1
            rcases Int.mul_eq_zero.1 e1 with h | h
            · omega
            · exact h
          · -- primitive
            have hdG : ∀ j, j < w → d * G ∣ vk fr a col X k j := by
              intro j hj
              obtain ⟨c, hc⟩ := hdv j hj
              refine ⟨c, ?_⟩
              have h9 := hue j hj
              have hc : vk fr a col X k j / G = d * c := hc
              rw [← h9, hc]; grind
            have h1 : d * G ∣ a := by have := hdG fr hfrw; rwa [vk_fr k hno] at this
            have h2 : ∀ s, s < k → d * G ∣ X s := fun s hs => by have := hdG (col s) (hcols s hs); rwa [vk_col k hB.asc s hs] at this
            obtain ⟨c, hc⟩ := g4 _ h1 h2
            have h3 : G * (d * c - 1) = 0 := by
              have : d * G * c = G * (d * c) := by grind
              rw [Int.mul_sub]; omega
            rcases Int.mul_eq_zero.1 h3 with h | h
            · omega
            · exact ⟨c, by omega⟩
    obtain ⟨⟨l, e⟩, hk1, he, hu⟩ := key
    simp only at he hu
    subst he
    exact ⟨l, k, hk1, hrank, ⟨A', col, sn, hB⟩, .inr ⟨hkw2, hu⟩⟩
end
end Km
/- The law ExactKernel. -/
namespace Km
open Sx Go M Vc Lm Dt
theorem awake08 : sparselaw08_awake = some true := by kernel_rfl
theorem intB_ok {v : Int} (h0 : -1000000 ≤ v) (h1 : v ≤ 1000000) {s : Bool} {l : List Int} (h : Bg v s l) : sparseref01_Int s l = some (v, true) := by
  have e : B = 4294967296 := rfl
  by_cases hv : v < 0
  · have hs : s = true := h.neg.2 hv
    have hlv := h.abs
    rw [if_pos hv] at hlv
    have hl2 : l = [-v] := tm_inj h.1 (by intro x hx; simp at hx; omega) h.2.1 (by intro x hx; simp at hx; omega) (by rw [hlv]; simp [lv])
    subst hs
    refine Ret.eq ?_
    unfold sparseref01_Int
    rw [norm_ok true h.1 (by rw [hl2]; simp), obs, trimL_of h.1 h.2.1, hl2]
    simp only [List.length_cons, List.length_nil]
    rw [if_neg (by omega), ret_bind]
    refine (ret_loop (Post := fun u : Int => u = -v) 1 (fun k (s : Int × Int) => s = (if k = 0 then 0 else -v, (k : Int))) rfl ?_ (by omega)).mono ?_
    · rintro k _ hk rfl
      unfold sparseref01_Int_l1
      simp only
      rw [ret_if]
      refine ⟨fun hlt => ?_, fun hge => ?_⟩
      · simp at hlt
        obtain rfl : k = 0 := by omega
        rw [ret_bind, ret_get]
        refine ⟨by omega, by simp, fun x hx => ?_⟩
        have hx : -v = x := by simpa using hx
        subst hx
        have hwm : wm .i64 32 ((0 : Nat) : Int) = 0 := by rw [wm_i (by omega) (by omega)]; rfl
        have hws : wshl .u64 (wc .u64 (-v)) 0 = some (-v) := by
          rw [wc_u64_in ⟨by omega, by omega⟩]
          unfold wshl
          rw [if_neg (by omega)]
          show some (IntKind.u64.wrap (-v * 2 ^ (min (0 : Int).toNat 64))) = _
          rw [show (2 : Int) ^ (min (0 : Int).toNat 64) = 1 from rfl, Int.mul_one, IntWalk.u64_in _ ⟨by omega, by omega⟩]
        rw [hwm, hws, obs]
        have hor : wor .u64 0 (-v) = -v := by
          have := wor_hi (x := 0) (y := -v) ⟨by omega, by omega⟩ ⟨by omega, by omega⟩
          rw [Int.zero_mul, Int.zero_add] at this
          exact this
        refine ⟨_, rfl, by omega, ?_⟩
        rw [if_pos rfl, hor, if_neg (by omega), wa_i (by omega) (by omega)]
        rfl
      · simp at hge
        refine ⟨_, rfl, ?_⟩
        show (if k = 0 then (0 : Int) else -v) = -v
        rw [if_neg (by omega)]
    · rintro _ rfl
      rw [if_pos (by simp), if_neg (by omega)]
      refine ⟨_, rfl, ?_⟩
      have e1 : ws .u64 (-v) 1 = -v - 1 := IntWalk.u64_in _ ⟨by omega, by omega⟩
      have e2 : wneg .i64 (-v - 1) = v + 1 := by
        show IntKind.i64.wrap (-(-v - 1)) = _
        rw [IntWalk.i64_in _ ⟨by omega, by omega⟩]; omega
      rw [e1, wc_i64_in ⟨by omega, by omega⟩, e2, ws_i (by omega) (by omega)]
      have : v + 1 - 1 = v := by omega
      rw [this]
  · have hs : s = false := by
      cases hb : s with
      | false => rfl
      | true => exact absurd (h.neg.1 hb) hv
    subst hs
    have hlv := h.abs
    rw [if_neg hv] at hlv
    exact intR_ok (by omega) (by omega) h.1 h.2.1 hlv
theorem pp101 : PP 101 := ⟨by omega, by omega, Nt.prm_101⟩
theorem Tg.take {T : List (List Nb)} {n w : Nat} {A : Mx} (h : Tg T n w A) {c : Nat} (hc : c ≤ n) : Tg (T.take c) c w A := ⟨by rw [List.length_take, h.1]; omega, fun r hr => by
  obtain ⟨l, h1, h2⟩ := h.2 r (by omega)
  exact ⟨l, by rw [List.getElem?_take, if_pos hr, h1], h2⟩⟩
theorem ln_snoc {l : List Int} {k : Nat} {f : Nat → Int} (h : Ln l k f) {x : Int} (hx : x = f k) : Ln (l ++ [x]) (k + 1) f := by
  refine ⟨by rw [List.length_append, h.1]; rfl, fun c hc => ?_⟩
  by_cases e : c < k
  · rw [List.getElem?_append_left (by rw [h.1]; exact e), h.2 c e]
  · have : c = k := by omega
    subst this
    rw [List.getElem?_append_right (by rw [h.1]; exact Nat.le_refl _), h.1, Nat.sub_self, hx]; rfl
theorem tb_snoc {T : List (List Int)} {k w : Nat} {A : Mx} (h : Tb T k w A) {l : List Int} (hl : Ln l w (A k)) : Tb (T ++ [l]) (k + 1) w A := by
  refine ⟨by rw [List.length_append, h.1]; rfl, fun r hr => ?_⟩
  by_cases e : r < k
  · obtain ⟨x, h1, h2⟩ := h.2 r e
    exact ⟨x, by rw [List.getElem?_append_left (by rw [h.1]; exact e), h1], h2⟩
  · have : r = k := by omega
    subst this
    exact ⟨l, by rw [List.getElem?_append_right (by rw [h.1]; exact Nat.le_refl _), h.1, Nat.sub_self]; rfl, hl⟩
theorem fmt1 : integer_Format false [1] = some (⟨#[49]⟩ : ByteArray) := by kernel_rfl
theorem exactKernel_true (l : List Int) (q cut : Int) : sparselaw08_ExactKernel l q cut = some true := by
  refine Ret.eq ?_
  unfold sparselaw08_ExactKernel
  rw [ret_if]
  refine ⟨fun _ => by rw [awake08, obs]; exact ⟨_, rfl, rfl⟩, fun h25 => ?_⟩
  obtain ⟨p1, p2, p3⟩ := place_eq q (n := 4) (by omega) (by omega)
  rw [p1, obs]
  generalize q % 18446744073709551616 % 4 = m at *
  obtain ⟨n, hn⟩ : ∃ n : Nat, wa .i64 1 m = (n : Int) ∧ 1 ≤ n ∧ n ≤ 4 := by
    rw [wa_i (by omega) (by omega)]
    exact ⟨(1 + m).toNat, by omega, by omega, by omega⟩
  obtain ⟨hn, hn1, hn4⟩ := hn
  rw [hn, ret_bind]
  refine (square08_ok (l := l) (n := n) (by omega) (by omega)).mono fun S hS => ?_
  obtain ⟨c1, c2, c3⟩ := place_eq cut (n := (n : Int)) (by omega) (by omega)
  rw [c1, obs]
  generalize cut % 18446744073709551616 % (n : Int) = m2 at *
  obtain ⟨c, hc⟩ : ∃ c : Nat, wa .i64 1 m2 = (c : Int) ∧ 1 ≤ c ∧ c ≤ n := by
    rw [wa_i (by omega) (by omega)]
    exact ⟨(1 + m2).toNat, by omega, by omega, by omega⟩
  obtain ⟨hc, hc1, hcn⟩ := hc
  rw [hc, ret_bind, ret_sli]
  refine ⟨by omega, by omega, by rw [hS.1]; omega, ?_⟩
  rw [show ((0 : Int).toNat) = 0 from rfl, List.drop_zero, Int.toNat_natCast]
  have hT := hS.take hcn
  generalize S.take c = T at *
  obtain ⟨hM, h100⟩ := mb_ok (n := c) (by omega)
  have bA : ∀ i j, Bd 100 (sqe l n i j) := fun i j => sqe_bd l n i j
  have okA : Okb c n (sqe l n) (mb c) := sqe_okb (l := l) (by omega) fun i j _ _ => bA i j
  have bAm : ∀ i j, i < c → j < n → Bd (mb c) (sqe l n i j) := fun i j _ _ => (bA i j).mono h100
  obtain ⟨kl, k, hke, hre, ⟨A', col, sn, hBar⟩, hkr⟩ := kernel_ok hM okA hT bAm (by omega) (by omega) hc1 hn1
  rw [hke, obs, hre, obs]
  simp only
  have hfit : (((!(decide True)) || (!(decide True))) || (!(((decide ((0 : Int) < (kl.length : Int))) == (decide ((k : Int) < (n : Int))))))) = false := by
    rcases hkr with ⟨rfl, rfl⟩ | ⟨hlt, u, hu, _⟩
    · simp
    · have h1 : decide ((0 : Int) < (kl.length : Int)) = true := by rw [hu.1]; simp; omega
      have h2 : decide ((k : Int) < (n : Int)) = true := by simp; exact hlt
      rw [h1, h2]; rfl
  rw [hfit, if_neg (by simp), ret_bind]
  refine (ret_loop (Post := fun R : List (List Int) => Tb R c n (sqe l n)) c (fun i (s : List (List Int) × Int) => s.2 = (i : Int) ∧ Tb s.1 i n (sqe l n)) ⟨rfl, rfl, fun r hr => absurd hr (by omega)⟩ ?_ (by omega)).mono ?_
  · rintro i ⟨o, _⟩ hi ⟨rfl, hI⟩
    simp only at hI
    unfold sparselaw08_ExactKernel_l5
    simp only
    rw [hT.1, ret_if]
    refine ⟨fun hlt => ?_, fun hge => ⟨_, rfl, by have e : i = c := (by omega); subst e; exact hI⟩⟩
    have hic : i < c := by omega
    rw [ret_bind]
    refine (ret_loop (Post := fun R : List Int => Ln R n (sqe l n i)) n (fun j (s : List Int × Int) => s.2 = (j : Int) ∧ Ln s.1 j (sqe l n i)) ⟨rfl, rfl, fun r hr => absurd hr (by omega)⟩ ?_ (by omega)).mono ?_
    · rintro j ⟨o, _⟩ hj ⟨rfl, hJ⟩
      simp only at hJ
      unfold sparselaw08_ExactKernel_l10
      simp only
      rw [hn, ret_if]
      refine ⟨fun hlt2 => ?_, fun hge => ⟨_, rfl, by have e : j = n := (by omega); subst e; exact hJ⟩⟩
      have hjn : j < n := by omega
      obtain ⟨row, h1, h2⟩ := hT.at hic (i := (i : Int)) rfl
      obtain ⟨x, h3, h4⟩ := h2.at hjn (i := (j : Int)) rfl
      have hb := bA i j
      rw [h1, obs, h3, obs, intB_ok (by have := hb.1; omega) (by have := hb.2; omega) h4, obs, ret_bind, ret_app]
      exact ⟨by rw [hJ.1]; simp only [List.length_cons, List.length_nil]; omega, _, rfl, hjn, by show wa .i64 (j : Int) 1 = _; rw [wa_i (by omega) (by omega)]; rfl, ln_snoc hJ rfl⟩
    · intro r hr
      rw [ret_bind, ret_app]
      exact ⟨by rw [hI.1]; simp only [List.length_cons, List.length_nil]; omega, _, rfl, hic, by show wa .i64 (i : Int) 1 = _; rw [wa_i (by omega) (by omega)]; rfl, tb_snoc hI hr⟩
  · intro R hR
    obtain ⟨R2, o, hr2, _, he2, k2, B2, col2, hE⟩ := ech_ex pp101 (show 0 < c by omega) (by omega) (by omega) hR
    rw [rank_eq pp101 (by omega) (by omega) (by omega) hR hr2 he2, obs]
    have hq : o.2.1.length = k2 := hE.2.2.2.1.1
    have hle : k2 ≤ k := rank_mod_le (p := 101) (by omega) ((Rq.cg fun r c _ _ => ((Cg.mod 101 _ : Cg 101 (Rd 101 (sqe l n) r c) (sqe l n r c))).symm).trans hE.2.2.1) hE.2.1 hBar
    simp only
    have hfit2 : ((!(decide True)) || (decide ((k : Int) < (o.2.1.length : Int)))) = false := by
      rw [hq]
      have h2 : decide ((k : Int) < (k2 : Int)) = false := by simp; exact hle
      rw [h2]; rfl
    rw [hfit2, if_neg (by simp), ret_if]
    refine ⟨fun h0 => by rw [awake08, obs]; exact ⟨_, rfl, rfl⟩, fun h0 => ?_⟩
    obtain ⟨hkn, u, hu, bu, hz, hp⟩ : k < n ∧ ∃ u, Lg kl n u ∧ (∀ j, j < n → Bd (mb c) (u j)) ∧ (∀ r, r < c → sm n (fun j => sqe l n r j * u j) = 0) ∧ ∀ d, (∀ j, j < n → d ∣ u j) → d ∣ 1 := by
      rcases hkr with ⟨rfl, _⟩ | h
      · exact absurd rfl h0
      · exact h
    rw [hu.1, if_pos rfl, ret_bind]
    refine (times08_ok hM hT hu bAm bu (by omega) (by omega)).mono fun y hy => ?_
    rw [ret_bind]
    refine (ret_loop (Post := fun o => o = .inl ()) c (fun i (s : Int) => s = (i : Int)) rfl ?_ (by omega)).mono ?_
    · rintro i _ hi rfl
      unfold sparselaw08_ExactKernel_l7
      rw [hy.1, ret_if]
      refine ⟨fun hlt => ?_, fun _ => ⟨_, rfl, rfl⟩⟩
      have hic : i < c := by omega
      obtain ⟨z, h1, h2⟩ := hy.at hic (i := (i : Int)) rfl
      have h2 : Bg 0 z.1 z.2 := h2.cast (hz i hic)
      have lz := h2.lenB (M := 0) (m := 1) ⟨by omega, by omega⟩ (by decide)
      have hsg := signR_bg h2 (by omega)
      rw [if_neg (by omega), if_neg (by omega)] at hsg
      rw [h1, obs, hsg, obs, ret_if]
      exact ⟨fun _ => ⟨_, rfl, hic, by show wa .i64 (i : Int) 1 = _; rw [wa_i (by omega) (by omega)]; rfl⟩, fun h => absurd rfl h⟩
    · rintro _ rfl
      simp only
      rw [ret_bind]
      have hgl : ∀ i, i ≤ n → (gf u i = 0 ∨ Bd (mb c) (gf u i)) := by
        intro i
        induction i with
        | zero => intro _; exact .inl rfl
        | succ i ih =>
          intro hi
          have hb := bu i (by omega)
          have hgn := gf_nn u (i + 1)
          by_cases hu0 : u i = 0
          · have e : gf u (i + 1) = gf u i := by
              show ((Int.gcd (gf u i) (u i) : Nat) : Int) = _
              rw [hu0, Int.gcd_zero]
              have := gf_nn u i; omega
            rw [e]; exact ih (by omega)
          · refine .inr ⟨by have := hb.nn; omega, ?_⟩
            have h1 : gf u (i + 1) ∣ u i := gf_dvd u (i + 1) i (by omega)
            have h2 : (gf u (i + 1)).natAbs ≤ (u i).natAbs := Nat.le_of_dvd (by omega) (Int.natAbs_dvd_natAbs.2 h1)
            have := hb.1; have := hb.2
            omega
      have hM0 : 0 ≤ mb c := by omega
      refine (ret_loop (Post := fun o : Bool × List Int => Bg (gf u n) o.1 o.2) n (fun i (s : Bool × List Int × Int) => s.2.2 = (i : Int) ∧ Bg (gf u i) s.1 s.2.1) ⟨rfl, bg_zero.cast (show (0 : Int) = gf u 0 from rfl)⟩ ?_ (by omega)).mono ?_
      · rintro i ⟨gs, gl, _⟩ hi ⟨rfl, hI⟩
        simp only at hI
        unfold sparselaw08_ExactKernel_l8
        simp only
        rw [hn, ret_if]
        refine ⟨fun hlt => ?_, fun hge => ⟨_, rfl, by have e : i = n := (by omega); subst e; exact hI⟩⟩
        have hin : i < n := by omega
        obtain ⟨z, h1, h2⟩ := hu.at hin (i := (i : Int)) rfl
        have lz := h2.lenB (bu i hin) hM
        have bg : Bd (mb c) (gf u i) := by
          rcases hgl i (by omega) with h | h
          · rw [h]; exact ⟨by omega, hM0⟩
          · exact h
        have lg := hI.lenB bg hM
        rw [h1, obs, ret_bind]
        refine (gcdP_ok (s := gs) (t := z.1) hI.1 h2.1 (by omega) (by omega)).mono fun g hg => ?_
        rw [hI.sv, h2.sv] at hg
        exact ⟨_, rfl, hin, by show wa .i64 (i : Int) 1 = _; rw [wa_i (by omega) (by omega)]; rfl, hg⟩
      · rintro ⟨gs, gl⟩ hg
        simp only at hg ⊢
        have hd : gf u n ∣ 1 := hp _ fun j hj => gf_dvd u n j hj
        have h1 : gf u n = 1 := by
          have h2 := Int.le_of_dvd (by omega) hd
          have h3 := gf_nn u n
          have h4 : gf u n ≠ 0 := by
            intro h; rw [h] at hd
            have := Int.zero_dvd.1 hd; omega
          omega
        rw [h1] at hg
        have g1 : Bg 1 false [1] := ⟨by intro x hx; simp at hx; subst hx; exact ⟨by decide, by decide⟩, by intro x hx; simp at hx; omega, rfl, by simp⟩
        obtain ⟨rfl, rfl⟩ := hg.uniq g1
        rw [fmt1, obs, if_pos rfl, awake08, obs, obs]
        exact ⟨_, rfl, rfl⟩
theorem exactKernel_t (l : List Int) (q cut : Int) (_ : okL (Wf .i64) l) (_ : Wf .i64 q) (_ : Wf .i64 cut) : sparselaw08_ExactKernel l q cut = some true := exactKernel_true l q cut
end Km
