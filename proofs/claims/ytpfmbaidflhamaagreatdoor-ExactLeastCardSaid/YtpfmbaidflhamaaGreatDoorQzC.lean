/- Tables of numbers; a row minus a multiple of another one, divided exactly. -/
import Derived.Test.YtpfmbaidflhamaaGreatDoorQzA
import Derived.Test.YtpfmbaidflhamaaGreatDoorQzB
import Derived.KernelRfl
import Derived.Test.YtpfmbaidflhamaaGreatDoorSxR
set_option linter.unusedVariables false
set_option linter.unusedSimpArgs false
set_option maxHeartbeats 4000000
namespace Km
open Sx Go M Vc Lm Dt
abbrev Nb := Bool × List Int
/-- a row told by a function -/
def Lg (l : List Nb) (w : Nat) (f : Nat → Int) : Prop := l.length = w ∧ ∀ c, c < w → ∃ z, l[c]? = some z ∧ Bg (f c) z.1 z.2
/-- a table told by a matrix -/
def Tg (T : List (List Nb)) (n w : Nat) (A : Mx) : Prop := T.length = n ∧ ∀ r, r < n → ∃ l, T[r]? = some l ∧ Lg l w (A r)
theorem Lg.congr {l : List Nb} {w : Nat} {f g : Nat → Int} (h : Lg l w f) (e : ∀ c, c < w → f c = g c) : Lg l w g := ⟨h.1, fun c hc => by obtain ⟨z, h1, h2⟩ := h.2 c hc; exact ⟨z, h1, h2.cast (e c hc)⟩⟩
theorem Tg.congr {T : List (List Nb)} {n w : Nat} {A B : Mx} (h : Tg T n w A) (e : ∀ r c, r < n → c < w → A r c = B r c) : Tg T n w B := ⟨h.1, fun r hr => by obtain ⟨l, h1, h2⟩ := h.2 r hr; exact ⟨l, h1, h2.congr fun c hc => e r c hr hc⟩⟩
theorem Lg.set {l : List Nb} {w : Nat} {f : Nat → Int} (h : Lg l w f) {c : Nat} (hc : c < w) {z : Nb} {v : Int} (hz : Bg v z.1 z.2) : Lg (l.set c z) w (fun j => if j = c then v else f j) := by
  refine ⟨by rw [List.length_set]; exact h.1, fun j hj => ?_⟩
  by_cases e : j = c
  · subst e
    exact ⟨z, by rw [List.getElem?_set_self]; rw [h.1]; exact hc, hz.cast (show v = (if j = j then v else f j) from (if_pos rfl).symm)⟩
  · obtain ⟨y, h1, h2⟩ := h.2 j hj
    exact ⟨y, by rw [List.getElem?_set_ne (fun h => e h.symm)]; exact h1, h2.cast (show f j = (if j = c then v else f j) from (if_neg e).symm)⟩
theorem Tg.set {T : List (List Nb)} {n w : Nat} {A : Mx} (h : Tg T n w A) {k : Nat} (hk : k < n) {l : List Nb} {g : Nat → Int} (hl : Lg l w g) : Tg (T.set k l) n w (up A k g) := by
  refine ⟨by rw [List.length_set]; exact h.1, fun r hr => ?_⟩
  by_cases e : r = k
  · subst e
    exact ⟨l, by rw [List.getElem?_set_self]; rw [h.1]; exact hk, hl.congr fun c _ => up_in.symm⟩
  · obtain ⟨m, h1, h2⟩ := h.2 r hr
    exact ⟨m, by rw [List.getElem?_set_ne (fun h => e h.symm)]; exact h1, h2.congr fun c _ => (up_out e).symm⟩
theorem at_some {α : Type} {l : List α} {k : Nat} {x : α} (hx : l[k]? = some x) {i : Int} (hi : i = (k : Int)) : getI l i = some x := by
  subst hi
  have := (List.getElem?_eq_some_iff.1 hx).1
  exact Ret.eq (by rw [ret_get]; exact ⟨by omega, by omega, fun y hy => by rw [Int.toNat_natCast] at hy; exact Option.some.inj (hy.symm.trans hx)⟩)
theorem set_some {α : Type} {l : List α} {k : Nat} {x : α} (hk : k < l.length) {i : Int} (hi : i = (k : Int)) : setI l i x = some (l.set k x) := by
  subst hi
  exact Ret.eq (by rw [ret_set, Int.toNat_natCast]; exact ⟨by omega, by omega, rfl⟩)
theorem Lg.at {l : List Nb} {w : Nat} {f : Nat → Int} (h : Lg l w f) {c : Nat} (hc : c < w) {i : Int} (hi : i = (c : Int)) : ∃ z, getI l i = some z ∧ Bg (f c) z.1 z.2 := by
  obtain ⟨z, h1, h2⟩ := h.2 c hc
  exact ⟨z, at_some h1 hi, h2⟩
theorem Tg.at {T : List (List Nb)} {n w : Nat} {A : Mx} (h : Tg T n w A) {r : Nat} (hr : r < n) {i : Int} (hi : i = (r : Int)) : ∃ l, getI T i = some l ∧ Lg l w (A r) := by
  obtain ⟨l, h1, h2⟩ := h.2 r hr
  exact ⟨l, at_some h1 hi, h2⟩
theorem negP_bg {s : Bool} {a : List Int} (ha : LW a) (hn : a.length ≤ 1000000) : Ret (integer_Neg s a) (fun r => Bg (- sv s a) r.1 r.2) := by
  unfold integer_Neg
  rw [clone_ok hn, obs, ret_bind]
  exact (big_bg (!s) ha hn).mono fun r hr => ⟨_, rfl, hr.cast (sv_not s a)⟩
theorem absP_bg {s : Bool} {a : List Int} (ha : LW a) (hn : a.length ≤ 1000000) : Ret (integer_Abs s a) (fun r => Bg (lv a) r.1 r.2) := by
  unfold integer_Abs
  rw [clone_ok hn, obs, ret_bind]
  exact (big_bg false ha hn).mono fun r hr => ⟨_, rfl, hr⟩
theorem quoP_bg {s t : Bool} {a b : List Int} (ha : LW a) (hb : LW b) (hn : a.length ≤ 800) (hm : b.length ≤ 800) {h : Int} (hne : sv t b ≠ 0) (he : sv s a = sv t b * h) : Ret (integer_Quo s a t b) (fun r => Bg h r.1 r.2.1 ∧ r.2.2 = 0) := by
  unfold integer_Quo
  rw [ret_bind]
  refine (divmod_bg (s := s) (t := t) ha hb hn hm hne).mono ?_
  rintro ⟨a, b, c, d, e⟩ ⟨hq, hr, h0⟩
  simp only at hq hr h0 ⊢
  subst h0
  rw [he, Int.mul_emod_right] at hr
  rw [he, Int.mul_ediv_cancel_left _ hne] at hq
  have hd : d = [] := (lv_zero hr.1 hr.2.1).1 (by rw [hr.abs]; simp)
  subst hd
  rw [if_neg (by simp)]
  exact ⟨_, rfl, hq, rfl⟩
theorem Bg.lenB {v : Int} {s : Bool} {l : List Int} (h : Bg v s l) {M : Int} {m : Nat} (hb : Bd M v) (hM : M < pw m) : l.length ≤ m := h.len (by have := hb.1; omega) (by have := hb.2; omega)
theorem sweep_ok {row top : List Nb} {w : Nat} {f g h : Nat → Int} {M a p d : Int} (hM : M < pw 60) (hrow : Lg row w f) (htop : Lg top w g) {za zp zd : Nb} (ha : Bg a za.1 za.2) (hp : Bg p zp.1 zp.2) (hd : Bg d zd.1 zd.2) (hd0 : d ≠ 0)
    (bf : ∀ j, j < w → Bd M (f j)) (bg : ∀ j, j < w → Bd M (g j)) (ba : Bd M a) (bp : Bd M p) (bd : Bd M d) (he : ∀ j, j < w → p * f j - a * g j = d * h j) (hw : w ≤ 1000) :
    Ret (exact_sweep row top za.1 za.2 zp.1 zp.2 zd.1 zd.2) (fun r => Lg r w h) := by
  unfold exact_sweep
  rw [ret_bind]
  have hM0 := ba.nn
  have la := ha.lenB ba hM
  have lp := hp.lenB bp hM
  have ld := hd.lenB bd hM
  have hMM : M * M < pw 120 := by
    have h1 : M * M ≤ M * pw 60 := Int.mul_le_mul_of_nonneg_left (by omega) hM0
    have h2 : M * pw 60 < pw 60 * pw 60 := Int.mul_lt_mul_of_pos_right hM (pw_pos 60)
    have h3 : pw 120 = pw 60 * pw 60 := pw_add 60 60
    omega
  refine (ret_loop (Post := fun r : List Nb => Lg r w h) w (fun k (s : List Nb × Int) => s.2 = (k : Int) ∧ Lg s.1 w (fun j => if j < k then h j else f j)) ⟨rfl, hrow.congr fun c _ => by rw [if_neg (by omega)]⟩ ?_ (by omega)).mono fun r hr => ⟨_, rfl, hr⟩
  rintro k ⟨r, _⟩ hk ⟨rfl, hI⟩
  simp only at hI
  unfold exact_sweep_l1
  simp only
  rw [htop.1, ret_if]
  refine ⟨fun hlt => ?_, fun hge => ⟨_, rfl, hI.congr fun c hc => by rw [if_pos (by omega)]⟩⟩
  have hkw : k < w := by omega
  obtain ⟨y, hy, hyB⟩ := htop.at hkw rfl
  obtain ⟨x, hx, hxB⟩ := hI.at hkw rfl
  have hxB : Bg (f k) x.1 x.2 := hxB.cast (show (if k < k then h k else f k) = f k from if_neg (by omega))
  have lx := hxB.lenB (bf k hkw) hM
  have ly := hyB.lenB (bg k hkw) hM
  rw [hy, obs, hx, obs, ret_bind]
  refine (mul_bg (s := zp.1) (t := x.1) hp.1 hxB.1 (by omega) (by omega)).mono fun u hu => ?_
  rw [hp.sv, hxB.sv] at hu
  have lu := hu.lenB (bp.mul (bf k hkw)) hMM
  rw [ret_bind]
  refine (mul_bg (s := za.1) (t := y.1) ha.1 hyB.1 (by omega) (by omega)).mono fun v hv => ?_
  rw [ha.sv, hyB.sv] at hv
  have lv' := hv.lenB (ba.mul (bg k hkw)) hMM
  rw [ret_bind]
  refine (sub_bg (s := u.1) (t := v.1) hu.1 hv.1 (by omega) (by omega)).mono fun q hq => ?_
  rw [hu.sv, hv.sv] at hq
  have h2M : M * M + M * M < pw 121 := by
    have := pw_pos 120
    have e : pw 121 = B * pw 120 := rfl
    have e2 : B = 4294967296 := rfl
    rw [e, e2]; omega
  have lq := hq.lenB ((bp.mul (bf k hkw)).sub (ba.mul (bg k hkw))) h2M
  rw [ret_bind]
  refine (quoP_bg (s := q.1) (t := zd.1) (h := h k) hq.1 hd.1 (by omega) (by omega) (by rw [hd.sv]; exact hd0) (by rw [hq.sv, hd.sv]; exact he k hkw)).mono ?_
  rintro ⟨t1, t2, t3⟩ ⟨ht, _⟩
  simp only at ht ⊢
  rw [set_some (by rw [hI.1]; exact hkw) rfl, obs]
  refine ⟨_, rfl, hkw, by show wa .i64 (k : Int) 1 = _; rw [wa_i (by omega) (by omega)]; rfl, ?_⟩
  refine (hI.set hkw (z := (t1, t2)) ht).congr fun c hc => ?_
  by_cases e : c = k
  · subst e; rw [if_pos rfl, if_pos (by omega)]
  · rw [if_neg e]
    by_cases hck : c < k
    · rw [if_pos hck, if_pos (by omega)]
    · rw [if_neg hck, if_neg (by omega)]
end Km
/- One step of the elimination without fractions; the whole of it. -/
namespace Km
open Sx Go M Vc Lm Dt
/-- what the elimination meets is bounded -/
def Okb (n w : Nat) (A : Mx) (M : Int) : Prop := ∀ (A' : Mx) (cl : Nat → Nat) (q i j : Nat), (∀ i, i < n → ∃ i', i' < n ∧ ∀ j, A' i j = A i' j) → q ≤ n → (∀ s, s < q → cl s < w) → i < n → j < w → Bd M (Rk A' cl q i j) ∧ Bd M (det q (Pm_ A' cl))
theorem pow_mono {X : Int} (hX : 1 ≤ X) {m n : Nat} (h : m ≤ n) : X ^ m ≤ X ^ n := by
  obtain ⟨d, rfl⟩ := Nat.exists_eq_add_of_le h
  induction d with
  | zero => exact Int.le_refl _
  | succ d ih =>
    have h1 := ih (by omega)
    have h2 := Dt.pow_nn (show 0 ≤ X by omega) (m + d)
    have h3 : X ^ (m + d) * 1 ≤ X ^ (m + d) * X := Int.mul_le_mul_of_nonneg_left hX h2
    rw [show m + (d + 1) = (m + d) + 1 by omega, Int.pow_succ]
    omega
theorem okb_of {n w K : Nat} {M : Int} {A : Mx} (hM : 1 ≤ M) (hK : 1 ≤ K) (hnK : n ≤ K) (hA : ∀ i j, i < n → j < w → Bd M (A i j)) : Okb n w A (2 * (K * M) ^ (n + 2)) := by
  intro A' cl q i j hp hq hc hi hj
  have hKM : 1 ≤ (K : Int) * M := by
    have : (1 : Int) * 1 ≤ K * M := Int.mul_le_mul (by omega) hM (by omega) (by omega)
    omega
  have hA' : ∀ i j, i < n → j < w → Bd M (A' i j) := by
    intro i j hi hj
    obtain ⟨i', h1, h2⟩ := hp i hi
    rw [h2]; exact hA i' j h1 hj
  obtain ⟨h1, h2⟩ := Rk_bd (K := K) (n := n) (w := w) (A := A') (col := cl) (k := q) (i := i) (j := j) hM hK hA' hq (by omega) hc hi hj
  have h3 := pow_mono hKM (show q + 2 ≤ n + 2 by omega)
  exact ⟨h1.mono (by omega), h2.mono (by omega)⟩
section
variable {n w cw : Nat} {A A' : Mx} {col : Nat → Nat} {k c : Nat} {sn M : Int}
theorem bar_rows (h : Bar n cw A A' col k c sn) : ∀ i, i < n → ∃ i', i' < n ∧ ∀ j, A' i j = A i' j := by
  obtain ⟨x, xi, hx, hA⟩ := h.perm
  exact fun i hi => ⟨x i, (hx i hi).1, fun j => hA i j hi⟩
theorem sw_rows (h : ∀ i, i < n → ∃ i', i' < n ∧ ∀ j, A' i j = A i' j) {a b : Nat} (ha : a < n) (hb : b < n) : ∀ i, i < n → ∃ i', i' < n ∧ ∀ j, sw A' a b i j = A i' j := by
  intro i hi
  by_cases e1 : i = a
  · obtain ⟨i', h1, h2⟩ := h b hb
    exact ⟨i', h1, fun j => by unfold sw; rw [if_pos e1]; exact h2 j⟩
  · by_cases e2 : i = b
    · obtain ⟨i', h1, h2⟩ := h a ha
      exact ⟨i', h1, fun j => by unfold sw; rw [if_neg e1, if_pos e2]; exact h2 j⟩
    · obtain ⟨i', h1, h2⟩ := h i hi
      exact ⟨i', h1, fun j => by unfold sw; rw [if_neg e1, if_neg e2]; exact h2 j⟩
theorem j1_ok (hM : M < pw 60) (hR : Okb n w A M) (h : Bar n cw A A' col k c sn) (hcw : cw ≤ w) (hw : w ≤ 1000) (hn : n ≤ 1000) (hc : c < cw) {a : Nat} (hka : k ≤ a) (han : a < n) (hne : Rk A' col k a c ≠ 0)
    {T : List (List Nb)} (hT : Tg T n w (Rk (sw A' k a) col k)) {pv : List Int} (hpv : pv.length ≤ 1000) {zd : Nb} (hd : Bg (det k (Pm_ A' col)) zd.1 zd.2) {s' : Int} :
    Ret (exact_reduced_step_j1 (k : Int) (c : Int) zd.1 zd.2 pv T s') (fun r => Tg r.1 n w (Rk (sw A' k a) (setC col k c) (k + 1)) ∧ r.2.1 = pv ++ [(c : Int)] ∧ Bg (det (k + 1) (Pm_ (sw A' k a) (setC col k c))) r.2.2.1 r.2.2.2.1 ∧ r.2.2.2.2 = s') := by
  obtain ⟨hB', hdet, htop, hstep⟩ := h.pivot hc hka han hne
  have hkn : k < n := by omega
  have hrows := bar_rows h
  have hrows' := sw_rows hrows hkn han
  have hlt : ∀ s, s < k → col s < w := fun s hs => by have := h.lt s hs; have := h.cw; omega
  have hlt' : ∀ s, s < k + 1 → setC col k c s < w := fun s hs => by have := hB'.lt s hs; have := hB'.cw; omega
  have bR : ∀ i j, i < n → j < w → Bd M (Rk (sw A' k a) col k i j) := fun i j hi hj => (hR _ _ _ _ _ hrows' h.kn hlt hi hj).1
  have bd : Bd M (det k (Pm_ A' col)) := (hR _ col k 0 c hrows h.kn hlt (by omega) (by omega)).2
  have hk : ∀ j, Rk (sw A' k a) col k k j = Rk A' col k a j := fun j => by rw [Rk_sw hka, if_pos rfl]
  unfold exact_reduced_step_j1
  obtain ⟨lk, h1, h2⟩ := hT.at hkn (i := (k : Int)) rfl
  obtain ⟨nx, h3, h4⟩ := h2.at (show c < w by omega) (i := (c : Int)) rfl
  rw [hk] at h4
  rw [h1, obs, h3, obs, ret_bind]
  refine (ret_loop (Post := fun r : List (List Nb) => Tg r n w (Rk (sw A' k a) (setC col k c) (k + 1))) n (fun i (s : List (List Nb) × Int) => s.2 = (i : Int) ∧ Tg s.1 n w (fun r j => if r < i ∧ r ≠ k then Rk (sw A' k a) (setC col k c) (k + 1) r j else Rk (sw A' k a) col k r j)) ⟨rfl, hT.congr fun r j _ _ => by rw [if_neg (by omega)]⟩ ?_ (by omega)).mono ?_
  · rintro i ⟨T', _⟩ hi ⟨rfl, hI⟩
    simp only at hI
    unfold exact_reduced_step_l4
    simp only
    rw [hT.1, ret_if]
    refine ⟨fun hlt2 => ?_, fun hge => ⟨_, rfl, hI.congr fun r j hr hj => ?_⟩⟩
    · have hin : i < n := by omega
      obtain ⟨row, hr1, hr2⟩ := hI.at hin (i := (i : Int)) rfl
      have hr2 : Lg row w (Rk (sw A' k a) col k i) := hr2.congr fun j _ => if_neg (by omega)
      have hwa : wa .i64 (i : Int) 1 = ((i + 1 : Nat) : Int) := by rw [wa_i (by omega) (by omega)]; rfl
      rw [hr1, obs, ret_if]
      unfold exact_reduced_step_j5
      rw [hwa]
      refine ⟨fun he => ⟨_, rfl, hin, rfl, hI.congr fun r j _ _ => ?_⟩, fun he => ?_⟩
      · have hik : i = k := by omega
        by_cases hc2 : r < i ∧ r ≠ k
        · rw [if_pos hc2, if_pos ⟨by omega, hc2.2⟩]
        · rw [if_neg hc2, if_neg (by omega)]
      · have hik : i ≠ k := by omega
        obtain ⟨top, ht1, ht2⟩ := hI.at hkn (i := (k : Int)) rfl
        have ht2 : Lg top w (Rk A' col k a) := ht2.congr fun j _ => (if_neg (by omega)).trans (hk j)
        obtain ⟨fz, hf1, hf2⟩ := hr2.at (show c < w by omega) (i := (c : Int)) rfl
        have hne2 : neI (i : Int) (k : Int) = some () := by unfold neI; rw [if_neg he]
        rw [ht1, obs, hf1, obs, hne2, obs, ret_bind]
        have bA : ∀ j, j < w → Bd M (Rk A' col k a j) := fun j hj => by rw [← hk]; exact bR k j hkn hj
        refine (sweep_ok (h := Rk (sw A' k a) (setC col k c) (k + 1) i) hM hr2 ht2 hf2 h4 hd h.d (fun j hj => bR i j hin hj) bA (bR i c hin (by omega)) (bA c (by omega)) bd (fun j hj => hstep i j hik) hw).mono fun row' hrow' => ?_
        rw [set_some (by rw [hI.1]; exact hin) rfl, obs]
        refine ⟨_, rfl, hin, rfl, (hI.set hin hrow').congr fun r j hr hj => ?_⟩
        by_cases e : r = i
        · subst e
          rw [up_in, if_pos ⟨by omega, hik⟩]
        · rw [up_out e]
          by_cases hc2 : r < i ∧ r ≠ k
          · rw [if_pos hc2, if_pos ⟨by omega, hc2.2⟩]
          · rw [if_neg hc2, if_neg (by omega)]
    · by_cases e : r = k
      · subst e
        rw [if_neg (by omega), hk]; exact (htop j).symm
      · rw [if_pos ⟨by omega, e⟩]
  · intro T' hT'
    rw [ret_bind, ret_app]
    refine ⟨by simp only [List.length_cons, List.length_nil]; omega, _, rfl, hT', rfl, ?_, rfl⟩
    rw [hdet]; exact h4
theorem step_ok (hM : M < pw 60) (hR : Okb n w A M) (h : Bar n cw A A' col k c sn) (hcw : cw ≤ w) (hw : w ≤ 1000) (hn : n ≤ 1000) (hc : c < cw) {a : Nat} (hka : k ≤ a) (han : a < n) (hne : Rk A' col k a c ≠ 0)
    {T : List (List Nb)} (hT : Tg T n w (Rk A' col k)) {pv : List Int} (hpv : pv.length ≤ 1000) {zd : Nb} (hd : Bg (det k (Pm_ A' col)) zd.1 zd.2) :
    Ret (exact_reduced_step T pv zd.1 zd.2 sn (c : Int) (k : Int) (a : Int)) (fun r => Tg r.1 n w (Rk (sw A' k a) (setC col k c) (k + 1)) ∧ r.2.1 = pv ++ [(c : Int)] ∧ Bg (det (k + 1) (Pm_ (sw A' k a) (setC col k c))) r.2.2.1 r.2.2.2.1 ∧ r.2.2.2.2 = (if a = k then sn else -sn)) := by
  have hkn : k < n := by omega
  unfold exact_reduced_step
  rw [ret_if]
  refine ⟨fun hlt => ?_, fun hge => ?_⟩
  · obtain ⟨la, h1, h2⟩ := hT.at han (i := (a : Int)) rfl
    obtain ⟨lk, h3, h4⟩ := hT.at hkn (i := (k : Int)) rfl
    rw [h1, obs, h3, obs, set_some (by rw [hT.1]; exact hkn) rfl, obs, set_some (by rw [List.length_set, hT.1]; exact han) rfl, obs]
    have hT' : Tg ((T.set k la).set a lk) n w (Rk (sw A' k a) col k) := by
      refine ((hT.set hkn h2).set han h4).congr fun r j hr hj => ?_
      rw [Rk_sw hka]
      by_cases e1 : r = k
      · subst e1; rw [if_pos rfl, up_out (by omega), up_in]
      · rw [if_neg e1]
        by_cases e2 : r = a
        · subst e2; rw [if_pos rfl, up_in]
        · rw [if_neg e2, up_out e2, up_out e1]
    have hs : wneg .i64 sn = -sn := by
      rcases h.sg.1 with rfl | rfl
      · exact IntWalk.i64_in _ ⟨by omega, by omega⟩
      · exact IntWalk.i64_in _ ⟨by omega, by omega⟩
    rw [hs, if_neg (by omega)]
    exact j1_ok hM hR h hcw hw hn hc hka han hne hT' hpv hd
  · have e : a = k := by omega
    subst e
    rw [if_pos rfl]
    refine j1_ok hM hR h hcw hw hn hc hka han hne ?_ hpv hd
    refine hT.congr fun r j _ _ => ?_
    rw [Rk_sw (Nat.le_refl _)]
    by_cases e1 : r = a
    · subst e1; rw [if_pos rfl]
    · rw [if_neg e1, if_neg e1]
/-- what is known between two columns -/
def EI (n w cw : Nat) (A : Mx) (c : Nat) (T : List (List Nb)) (pv : List Int) (zs : Bool) (zl : List Int) (sn : Int) : Prop :=
  ∃ A' col k, Bar n cw A A' col k c sn ∧ Tg T n w (Rk A' col k) ∧ pv = (List.range k).map (fun s => (col s : Int)) ∧ Bg (det k (Pm_ A' col)) zs zl
theorem eliminate_ok (hM : M < pw 60) (hR : Okb n w A M) (hcw : cw ≤ w) (hw : w ≤ 900) (hn : n ≤ 900) {T : List (List Nb)} (hT : Tg T n w A) :
    Ret (exact_eliminate T (cw : Int)) (fun r => EI n w cw A cw r.1 r.2.1 r.2.2.1 r.2.2.2.1 r.2.2.2.2) := by
  unfold exact_eliminate
  rw [ret_bind]
  refine (from_bg (n := 1) (by omega) (by omega)).mono fun one hone => ?_
  rw [ret_bind]
  refine (ret_loop (Post := fun r : List (List Nb) × List Int × Bool × List Int × Int => EI n w cw A cw r.1 r.2.1 r.2.2.1 r.2.2.2.1 r.2.2.2.2) cw (fun c (s : List (List Nb) × List Int × Bool × List Int × Int × Int) => s.2.2.2.2.2 = (c : Int) ∧ c ≤ cw ∧ EI n w cw A c s.1 s.2.1 s.2.2.1 s.2.2.2.1 s.2.2.2.2.1) ⟨rfl, by omega, A, id, 0, Bar.start, hT.congr fun r j _ _ => Rk_zero.symm, rfl, hone.cast (show (1 : Int) = det 0 (Pm_ A id) from rfl)⟩ ?_ (by omega)).mono fun r hr => ⟨_, rfl, hr⟩
  rintro c ⟨T, pv, zs, zl, sn, _⟩ hc ⟨rfl, hcc, A', col, k, hB, hT, hpv, hd⟩
  simp only at hB hT hpv hd
  unfold exact_eliminate_l9
  simp only
  rw [ret_if]
  refine ⟨fun hlt => ?_, fun hge => ⟨_, rfl, by have e : c = cw := (by omega); subst e; exact ⟨A', col, k, hB, hT, hpv, hd⟩⟩⟩
  have hccw : c < cw := by omega
  have hpl : pv.length = k := by rw [hpv, List.length_map, List.length_range]
  have hkn := hB.kn
  have hrows := bar_rows hB
  have hlt' : ∀ s, s < k → col s < w := fun s hs => by have := hB.lt s hs; have := hB.cw; omega
  have hwa : wa .i64 (c : Int) 1 = ((c + 1 : Nat) : Int) := by rw [wa_i (by omega) (by omega)]; rfl
  rw [ret_bind]
  refine (ret_loop (Post := fun o => (o = .inr () ∧ ∀ i, k ≤ i → i < n → Rk A' col k i c = 0) ∨ ∃ r, o = .inl r ∧ EI n w cw A (c + 1) r.1 r.2.1 r.2.2.1 r.2.2.2.1 r.2.2.2.2) (n - k) (fun i (s : Int) => s = ((k + i : Nat) : Int) ∧ k + i ≤ n ∧ ∀ j, k ≤ j → j < k + i → Rk A' col k j c = 0) ⟨by rw [hpl]; rfl, by omega, fun j h1 h2 => absurd h2 (by omega)⟩ ?_ (by omega)).mono ?_
  · rintro i _ hi ⟨rfl, hin, hz⟩
    unfold exact_eliminate_l13
    rw [hT.1, ret_if]
    refine ⟨fun hl2 => ?_, fun hge => ⟨_, rfl, .inl ⟨rfl, fun j h1 h2 => hz j h1 (by omega)⟩⟩⟩
    have han : k + i < n := by omega
    obtain ⟨row, h1, h2⟩ := hT.at han (i := ((k + i : Nat) : Int)) rfl
    obtain ⟨x, h3, h4⟩ := h2.at (show c < w by omega) (i := (c : Int)) rfl
    have bx := (hR _ _ _ _ _ hrows hkn hlt' han (show c < w by omega)).1
    have lx := h4.lenB bx hM
    rw [h1, obs, h3, obs, sign_bg h4.1 (by omega), obs, h4.sv, ret_if]
    refine ⟨fun h0 => ⟨_, rfl, by omega, ?_, by omega, fun j hj1 hj2 => ?_⟩, fun h0 => ?_⟩
    · rw [wa_i (by omega) (by omega)]; omega
    · by_cases e : j = k + i
      · subst e
        revert h0; split
        · omega
        · split
          · omega
          · intro _; omega
      · exact hz j hj1 (by omega)
    · have hne : Rk A' col k (k + i) c ≠ 0 := fun h => h0 (by rw [h]; rfl)
      have hpl' : (pv.length : Int) = (k : Int) := by rw [hpl]
      rw [hpl', ret_bind]
      refine (step_ok (zd := (zs, zl)) hM hR hB hcw (by omega) (by omega) hccw (by omega) han hne hT (by omega) hd).mono ?_
      rintro ⟨T', pv', zs', zl', sn'⟩ ⟨g1, g2, g3, g4⟩
      simp only at g1 g2 g3 g4 ⊢
      refine ⟨_, rfl, .inr ⟨_, rfl, sw A' k (k + i), setC col k c, k + 1, ?_, g1, ?_, g3⟩⟩
      · have := (hB.pivot hccw (by omega) han hne).1
        show Bar n cw A (sw A' k (k + i)) (setC col k c) (k + 1) (c + 1) sn'
        rw [g4]; exact this
      · show pv' = _
        rw [g2, hpv, List.range_succ, List.map_append]
        congr 1
        · refine List.map_congr_left fun s hs => ?_
          rw [setC_lt (List.mem_range.1 hs)]
        · show [(c : Int)] = [((setC col k c k : Nat) : Int)]
          rw [setC_at]
  · rintro _ (⟨rfl, hz⟩ | ⟨⟨T', pv', zs', zl', sn'⟩, rfl, hE⟩)
    · show Ret (exact_eliminate_j12 _ _ _ _ _ _) _
      unfold exact_eliminate_j12
      exact ⟨_, rfl, hccw, hwa, by omega, A', col, k, hB.none hccw hz, hT, hpv, hd⟩
    · show Ret (exact_eliminate_j12 _ _ _ _ _ _) _
      unfold exact_eliminate_j12
      exact ⟨_, rfl, hccw, hwa, by omega, hE⟩
end
end Km
/- Check, copies, Det, Solve. -/
namespace Km
open Sx Go M Vc Lm Dt
theorem Lg.snoc {l : List Nb} {k : Nat} {f : Nat → Int} (h : Lg l k f) {z : Nb} (hz : Bg (f k) z.1 z.2) : Lg (l ++ [z]) (k + 1) f := by
  refine ⟨by rw [List.length_append, h.1]; rfl, fun c hc => ?_⟩
  by_cases e : c < k
  · obtain ⟨y, h1, h2⟩ := h.2 c e
    exact ⟨y, by rw [List.getElem?_append_left (by rw [h.1]; exact e)]; exact h1, h2⟩
  · obtain rfl : c = k := by omega
    exact ⟨z, by rw [List.getElem?_append_right (by rw [h.1]; omega), h.1, Nat.sub_self]; rfl, hz⟩
theorem Tg.snoc {T : List (List Nb)} {k w : Nat} {A : Mx} (h : Tg T k w A) {l : List Nb} (hl : Lg l w (A k)) : Tg (T ++ [l]) (k + 1) w A := by
  refine ⟨by rw [List.length_append, h.1]; rfl, fun c hc => ?_⟩
  by_cases e : c < k
  · obtain ⟨y, h1, h2⟩ := h.2 c e
    exact ⟨y, by rw [List.getElem?_append_left (by rw [h.1]; exact e)]; exact h1, h2⟩
  · obtain rfl : c = k := by omega
    exact ⟨l, by rw [List.getElem?_append_right (by rw [h.1]; omega), h.1, Nat.sub_self]; rfl, hl⟩
section
variable {n w : Nat} {A : Mx} {T : List (List Nb)}
theorem xcolumns_ok (hT : Tg T n w A) : exact_columns T = some (if n = 0 then 0 else (w : Int)) := by
  unfold exact_columns
  by_cases h0 : n = 0
  · rw [if_pos (by rw [hT.1]; omega), if_pos h0]
  · rw [if_neg (by rw [hT.1]; omega), if_neg h0]
    obtain ⟨l, h1, h2⟩ := hT.at (r := 0) (by omega) (i := 0) rfl
    rw [h1, obs, h2.1]
theorem xcheck_ok (hT : Tg T n w A) (hn : n ≤ 16) (hw : w ≤ 16) : exact_check T = some 0 := by
  have hc : slices_ContainsFunc_apiBig T (if n = 0 then 0 else (w : Int)) = some false := by
    refine Ret.eq ?_
    unfold slices_ContainsFunc_apiBig slices_IndexFunc_apiBig
    rw [ret_bind, ret_bind]
    refine (ret_loop (Post := fun o => o = .inl ()) n (fun k (i : Int) => i = (k : Int)) rfl ?_ (by omega)).mono ?_
    · rintro k _ hk rfl
      unfold slices_IndexFunc_apiBig_l1
      rw [hT.1, ret_if]
      refine ⟨fun hlt => ?_, fun _ => ⟨_, rfl, rfl⟩⟩
      obtain ⟨l, h1, h2⟩ := hT.at (r := k) (by omega) (i := (k : Int)) rfl
      unfold exact_check_1
      rw [h1, obs, obs, h2.1, if_neg (show ¬ n = 0 by omega)]
      simp only [decide_true, Bool.not_true, Bool.false_eq_true, if_false]
      exact ⟨_, rfl, by omega, by show wa .i64 (k : Int) 1 = _; rw [wa_i (by omega) (by omega)]; rfl⟩
    · rintro _ rfl
      exact ⟨_, rfl, _, rfl, rfl⟩
  unfold exact_check
  rw [xcolumns_ok hT, obs, hc, obs, if_neg (by simp), hT.1, if_neg]
  simp only [Bool.or_eq_true, decide_eq_true_eq, not_or]
  split <;> omega
theorem xsquare_ok (hT : Tg T n n A) (hn : n ≤ 16) : exact_square T = some 0 := by
  unfold exact_square
  rw [xcheck_ok hT hn hn, obs, if_pos rfl, xcolumns_ok hT, obs, hT.1]
  have : (!(decide ((n : Int) = if n = 0 then 0 else (n : Int)))) = false := by split <;> simp <;> omega
  rw [this, obs, if_neg (by simp)]
theorem normZ_ok {v : Int} {z : Nb} (hz : Bg v z.1 z.2) (hl : z.2.length ≤ 1000000) : Ret (integer_Norm z.1 z.2) (fun r => Bg v r.1 r.2) := (normP_bg (s := z.1) hz.1 hl).mono fun r hr => by rw [hz.sv] at hr; exact hr
theorem rowtwin_ok {row : List Nb} {f : Nat → Int} {M : Int} (hM : M < pw 60) (hrow : Lg row w f) (bf : ∀ j, j < w → Bd M (f j)) (hw : w ≤ 1000) : Ret (loop (exact_twin_l6 row) ([], 0)) (fun o => Lg o w f) := by
  refine ret_loop (Post := fun o : List Nb => Lg o w f) w (fun k (s : List Nb × Int) => s.2 = (k : Int) ∧ Lg s.1 k f) ⟨rfl, rfl, fun c hc => absurd hc (by omega)⟩ ?_ (by omega)
  rintro k ⟨o, _⟩ hk ⟨rfl, hI⟩
  simp only at hI
  unfold exact_twin_l6
  simp only
  rw [hrow.1, ret_if]
  refine ⟨fun hlt => ?_, fun hge => ⟨_, rfl, by have e : k = w := (by omega); subst e; exact hI⟩⟩
  have hkw : k < w := by omega
  obtain ⟨z, h1, h2⟩ := hrow.at hkw (i := (k : Int)) rfl
  have lz := h2.lenB (bf k hkw) hM
  rw [h1, obs, ret_bind]
  refine (normZ_ok h2 (by omega)).mono fun r hr => ?_
  rw [ret_bind, ret_app]
  refine ⟨by rw [hI.1]; simp only [List.length_cons, List.length_nil]; omega, _, rfl, hkw, by show wa .i64 (k : Int) 1 = _; rw [wa_i (by omega) (by omega)]; rfl, hI.snoc (z := (r.1, r.2)) hr⟩
theorem twin0_ok {M : Int} (hM : M < pw 60) (hT : Tg T n w A) (bA : ∀ i j, i < n → j < w → Bd M (A i j)) (hn : n ≤ 1000) (hw : w ≤ 1000) : Ret (exact_twin T []) (fun o => Tg o n w A) := by
  unfold exact_twin
  rw [ret_bind]
  refine (ret_loop (Post := fun o : List (List Nb) => Tg o n w A) n (fun k (s : List (List Nb) × Int) => s.2 = (k : Int) ∧ Tg s.1 k w A) ⟨rfl, rfl, fun c hc => absurd hc (by omega)⟩ ?_ (by omega)).mono fun r hr => ⟨_, rfl, hr⟩
  rintro k ⟨o, _⟩ hk ⟨rfl, hI⟩
  simp only at hI
  unfold exact_twin_l5
  simp only
  rw [hT.1, ret_if]
  refine ⟨fun hlt => ?_, fun hge => ⟨_, rfl, by have e : k = n := (by omega); subst e; exact hI⟩⟩
  have hkn : k < n := by omega
  obtain ⟨row, h1, h2⟩ := hT.at hkn (i := (k : Int)) rfl
  rw [h1, obs, ret_bind]
  refine (rowtwin_ok hM h2 (fun j hj => bA k j hkn hj) hw).mono fun r hr => ?_
  rw [if_neg (by simp)]
  unfold exact_twin_j7
  rw [ret_bind, ret_app]
  exact ⟨by rw [hI.1]; simp only [List.length_cons, List.length_nil]; omega, _, rfl, hkn, by show wa .i64 (k : Int) 1 = _; rw [wa_i (by omega) (by omega)]; rfl, hI.snoc hr⟩
/-- a further column -/
def aug (A : Mx) (w : Nat) (g : Nat → Int) : Mx := fun r c => if c = w then g r else A r c
theorem twin1_ok {M : Int} (hM : M < pw 60) (hT : Tg T n w A) (bA : ∀ i j, i < n → j < w → Bd M (A i j)) {b : List Nb} {g : Nat → Int} (hb : Lg b n g) (bg : ∀ j, j < n → Bd M (g j)) (hn : n ≤ 1000) (hw : w ≤ 1000) : Ret (exact_twin T b) (fun o => Tg o n (w + 1) (aug A w g)) := by
  unfold exact_twin
  rw [ret_bind]
  refine (ret_loop (Post := fun o : List (List Nb) => Tg o n (w + 1) (aug A w g)) n (fun k (s : List (List Nb) × Int) => s.2 = (k : Int) ∧ Tg s.1 k (w + 1) (aug A w g)) ⟨rfl, rfl, fun c hc => absurd hc (by omega)⟩ ?_ (by omega)).mono fun r hr => ⟨_, rfl, hr⟩
  rintro k ⟨o, _⟩ hk ⟨rfl, hI⟩
  simp only at hI
  unfold exact_twin_l5
  simp only
  rw [hT.1, ret_if]
  refine ⟨fun hlt => ?_, fun hge => ⟨_, rfl, by have e : k = n := (by omega); subst e; exact hI⟩⟩
  have hkn : k < n := by omega
  obtain ⟨row, h1, h2⟩ := hT.at hkn (i := (k : Int)) rfl
  obtain ⟨z, h3, h4⟩ := hb.at hkn (i := (k : Int)) rfl
  have lz := h4.lenB (bg k hkn) hM
  rw [h1, obs, ret_bind]
  refine (rowtwin_ok hM h2 (fun j hj => bA k j hkn hj) hw).mono fun r hr => ?_
  rw [if_pos (by rw [hb.1]; omega), h3, obs, ret_bind]
  refine (normZ_ok h4 (by omega)).mono fun y hy => ?_
  rw [ret_bind, ret_app]
  refine ⟨by rw [hr.1]; simp only [List.length_cons, List.length_nil]; omega, ?_⟩
  unfold exact_twin_j7
  rw [ret_bind, ret_app]
  have hr' : Lg r w (aug A w g k) := hr.congr fun c hc => by unfold aug; rw [if_neg (by omega)]
  have hrow : Lg (r ++ [(y.1, y.2)]) (w + 1) (aug A w g k) := hr'.snoc (z := (y.1, y.2)) (hy.cast (by unfold aug; rw [if_pos rfl]))
  exact ⟨by rw [hI.1]; simp only [List.length_cons, List.length_nil]; omega, _, rfl, hkn, by show wa .i64 (k : Int) 1 = _; rw [wa_i (by omega) (by omega)]; rfl, hI.snoc hrow⟩
theorem turned_ok {R : List (List Nb)} {pv : List Int} {zs : Bool} {zl : List Int} {sg' D v : Int} {z : Nb} (hD : Bg D zs zl) (hz : Bg v z.1 z.2) (l1 : zl.length ≤ 1000) (l2 : z.2.length ≤ 1000) : Ret (exact_reduced_turned R pv zs zl sg' z.1 z.2) (fun r => Bg (if D < 0 then -v else v) r.1 r.2) := by
  unfold exact_reduced_turned
  rw [sign_bg hD.1 (by omega), obs, hD.sv, ret_if]
  refine ⟨fun hc => ?_, fun hc => ?_⟩
  · have hneg : D < 0 := by revert hc; split <;> (try split) <;> omega
    rw [ret_bind]
    refine (negP_bg (s := z.1) hz.1 (by omega)).mono fun r hr => ⟨_, rfl, hr.cast ?_⟩
    rw [hz.sv, if_pos hneg]
  · have hneg : ¬ D < 0 := fun h => hc (by rw [if_pos h]; omega)
    rw [ret_bind]
    refine (normP_bg (s := z.1) hz.1 (by omega)).mono fun r hr => ⟨_, rfl, hr.cast ?_⟩
    rw [hz.sv, if_neg hneg]
theorem xsolve_ok {M : Int} (hM : M < pw 60) (hT : Tg T n n A) (bA : ∀ i j, i < n → j < n → Bd M (A i j)) {b : List Nb} {g : Nat → Int} (hb : Lg b n g) (bg : ∀ j, j < n → Bd M (g j)) (hR : Okb n (n + 1) (aug A n g) M) (hn : n ≤ 16) (hn0 : 0 < n) :
    Ret (exact_Solve T b) (fun r => (r.2.2.2 = 9 ∧ det n A = 0) ∨ (r.2.2.2 = 0 ∧ det n A ≠ 0 ∧ ∃ x, Lg r.1 n x ∧ Bg (if det n A < 0 then - det n A else det n A) r.2.1 r.2.2.1 ∧ (∀ i, i < n → Bd M (x i)) ∧ ∀ i, i < n → sm n (fun j => A i j * x j) = (if det n A < 0 then - det n A else det n A) * g i)) := by
  have hda : det n (aug A n g) = det n A := det_congr fun i j hi hj => by unfold aug; rw [if_neg (by omega)]
  unfold exact_Solve
  rw [xsquare_ok hT hn, obs, if_pos rfl, hb.1, hT.1, if_pos rfl, ret_bind]
  refine (twin1_ok hM hT bA hb bg (by omega) (by omega)).mono fun T' hT' => ?_
  rw [ret_bind]
  refine (eliminate_ok (cw := n) hM hR (by omega) (by omega) (by omega) hT').mono ?_
  rintro ⟨R, pv, zs, zl, sn⟩ ⟨A', col, k, hB, hTR, hpv, hd⟩
  simp only at hB hTR hpv hd ⊢
  have hpl : pv.length = k := by rw [hpv, List.length_map, List.length_range]
  rw [hpl, ret_if]
  refine ⟨fun hlt => ⟨_, rfl, .inl ⟨rfl, ?_⟩⟩, fun hge => ?_⟩
  · rw [← hda]; exact hB.det0 (by omega)
  · have hkn := hB.kn
    obtain rfl : k = n := by omega
    have hdet := hB.det_ok
    rw [hda] at hdet
    have hsol := hB.solve
    have hdn := hB.d
    have hcols : ∀ s, s < k → col s < k + 1 := fun s hs => by have := hB.lt s hs; omega
    have bd := (hR A' col k 0 0 (bar_rows hB) (Nat.le_refl k) hcols hn0 (by omega)).2
    have bX : ∀ i, i < k → Bd M (Rk A' col k i k) := fun i hi => (hR A' col k i k (bar_rows hB) (Nat.le_refl k) hcols hi (by omega)).1
    have ld := hd.lenB bd hM
    generalize hD : det k (Pm_ A' col) = D at *
    have habs : (if det k A < 0 then - det k A else det k A) = if D < 0 then -D else D := by
      rcases hB.sg.1 with h | h
      · rw [h, Int.one_mul] at hdet; rw [hdet]
      · rw [h] at hdet
        have : D = - det k A := by omega
        rw [this]; split <;> split <;> omega
    have hne : det k A ≠ 0 := by
      intro h; rw [h, Int.mul_zero] at hdet; exact hdn hdet
    rw [ret_bind]
    refine (ret_loop (Post := fun o : List Nb => Lg o k (fun i => if D < 0 then - Rk A' col k i k else Rk A' col k i k)) k (fun i (s : List Nb × Int) => s.2 = (i : Int) ∧ Lg s.1 i (fun i => if D < 0 then - Rk A' col k i k else Rk A' col k i k)) ⟨rfl, rfl, fun c hc => absurd hc (by omega)⟩ ?_ (by omega)).mono ?_
    · rintro i ⟨o, _⟩ hi ⟨rfl, hI⟩
      simp only at hI
      unfold exact_Solve_l1
      simp only
      rw [hTR.1, hT.1, ret_if]
      refine ⟨fun hlt => ?_, fun hge2 => ⟨_, rfl, by have e : i = k := (by omega); subst e; exact hI⟩⟩
      have hik : i < k := by omega
      obtain ⟨row, h1, h2⟩ := hTR.at hik (i := (i : Int)) rfl
      obtain ⟨z, h3, h4⟩ := h2.at (show k < k + 1 by omega) (i := (k : Int)) rfl
      have lz := h4.lenB (bX i hik) hM
      rw [h1, obs, h3, obs, ret_bind]
      refine (turned_ok hd h4 (by omega) (by omega)).mono fun r hr => ?_
      rw [ret_bind, ret_app]
      exact ⟨by rw [hI.1]; simp only [List.length_cons, List.length_nil]; omega, _, rfl, hik, by show wa .i64 (i : Int) 1 = _; rw [wa_i (by omega) (by omega)]; rfl, hI.snoc (z := (r.1, r.2)) hr⟩
    · intro xs hxs
      rw [ret_bind]
      refine (absP_bg (s := zs) hd.1 (by omega)).mono fun r hr => ⟨_, rfl, .inr ⟨rfl, hne, _, hxs, ?_, ?_, ?_⟩⟩
      · rw [hd.abs] at hr
        rw [habs]; exact hr
      · intro i hi
        have := bX i hi
        split
        · exact this.neg
        · exact this
      · intro i hi
        rw [habs]
        have h1 := hsol i hi
        have e1 : sm k (fun j => aug A k g i j * Rk A' col k j k) = sm k (fun j => A i j * Rk A' col k j k) := sm_congr fun j hj => by unfold aug; rw [if_neg (by omega)]
        have e2 : aug A k g i k = g i := by unfold aug; rw [if_pos rfl]
        rw [e1, e2] at h1
        by_cases hn2 : D < 0
        · rw [if_pos hn2]
          have e3 : sm k (fun j => A i j * (if D < 0 then - Rk A' col k j k else Rk A' col k j k)) = -1 * sm k (fun j => A i j * Rk A' col k j k) := by
            rw [← sm_mul]; exact sm_congr fun j hj => by rw [if_pos hn2]; grind
          rw [e3, h1]; grind
        · rw [if_neg hn2]
          have e3 : sm k (fun j => A i j * (if D < 0 then - Rk A' col k j k else Rk A' col k j k)) = sm k (fun j => A i j * Rk A' col k j k) := sm_congr fun j hj => by rw [if_neg hn2]
          rw [e3, h1]
end
end Km
/- Products with vectors (the paper's), square matrices from numbers. -/
namespace Km
open Sx Go M Vc Lm Dt
theorem prod_lt {M : Int} (hM : M < pw 60) (h0 : 0 ≤ M) : M * M < pw 120 := by
  have h1 : M * M ≤ M * pw 60 := Int.mul_le_mul_of_nonneg_left (by omega) h0
  have h2 : M * pw 60 < pw 60 * pw 60 := Int.mul_lt_mul_of_pos_right hM (pw_pos 60)
  have h3 : pw 120 = pw 60 * pw 60 := pw_add 60 60
  omega
theorem sum_lt {M : Int} (hM : M < pw 60) (h0 : 0 ≤ M) {k : Nat} (hk : k ≤ 1000) : (k : Int) * (M * M) < pw 121 := by
  have h1 := prod_lt hM h0
  have h2 := Int.mul_nonneg h0 h0
  have h3 : (k : Int) * (M * M) ≤ 1000 * (M * M) := Int.mul_le_mul_of_nonneg_right (by omega) h2
  have e : pw 121 = B * pw 120 := rfl
  have e2 : B = 4294967296 := rfl
  have := pw_pos 120
  rw [e, e2]; omega
section
variable {n w : Nat} {A : Mx} {T : List (List Nb)} {M : Int}
theorem dot_ok {a b : List Nb} {f g : Nat → Int} (hM : M < pw 60) (ha : Lg a w f) (hb : Lg b w g) (bf : ∀ j, j < w → Bd M (f j)) (bg : ∀ j, j < w → Bd M (g j)) (hw : w ≤ 900) : Ret (sparseref08_Dot a b) (fun r => Bg (sm w fun j => f j * g j) r.1 r.2) := by
  unfold sparseref08_Dot
  rw [ret_bind]
  refine (ret_loop (Post := fun r : Bool × List Int => Bg (sm w fun j => f j * g j) r.1 r.2) w (fun k (s : Bool × List Int × Int) => s.2.2 = (k : Int) ∧ Bg (sm k fun j => f j * g j) s.1 s.2.1) ⟨rfl, bg_zero.cast (show (0 : Int) = sm 0 (fun j => f j * g j) from rfl)⟩ ?_ (by omega)).mono fun r hr => ⟨_, rfl, hr⟩
  rintro k ⟨zs, zl, _⟩ hk ⟨rfl, hI⟩
  simp only at hI
  unfold sparseref08_Dot_l1
  simp only
  rw [ha.1, ret_if]
  refine ⟨fun hlt => ?_, fun hge => ⟨_, rfl, by have e : k = w := (by omega); subst e; exact hI⟩⟩
  have hkw : k < w := by omega
  have hM0 := (bf k hkw).nn
  obtain ⟨x, hx, hxB⟩ := ha.at hkw (i := (k : Int)) rfl
  obtain ⟨y, hy, hyB⟩ := hb.at hkw (i := (k : Int)) rfl
  have lx := hxB.lenB (bf k hkw) hM
  have ly := hyB.lenB (bg k hkw) hM
  rw [hx, obs, hy, obs, ret_bind]
  refine (mulR_bg (s := x.1) (t := y.1) hxB.1 hyB.1 (by omega) (by omega)).mono fun u hu => ?_
  rw [hxB.sv, hyB.sv] at hu
  have lu := hu.lenB ((bf k hkw).mul (bg k hkw)) (prod_lt hM hM0)
  have ls := hI.lenB (sm_bd (Int.mul_nonneg hM0 hM0) fun j hj => (bf j (by omega)).mul (bg j (by omega))) (sum_lt hM hM0 (by omega))
  rw [ret_bind]
  refine (addR_bg (s := zs) (t := u.1) hI.1 hu.1 (by omega) (by omega)).mono fun v hv => ?_
  rw [hI.sv, hu.sv] at hv
  exact ⟨_, rfl, hkw, by show wa .i64 (k : Int) 1 = _; rw [wa_i (by omega) (by omega)]; rfl, hv⟩
theorem times08_ok {x : List Nb} {f : Nat → Int} (hM : M < pw 60) (hT : Tg T n w A) (hx : Lg x w f) (bA : ∀ i j, i < n → j < w → Bd M (A i j)) (bf : ∀ j, j < w → Bd M (f j)) (hn : n ≤ 900) (hw : w ≤ 900) : Ret (sparseref08_Times T x) (fun r => Lg r n (fun i => sm w fun j => A i j * f j)) := by
  unfold sparseref08_Times
  rw [ret_bind]
  refine (ret_loop (Post := fun r : List Nb => Lg r n (fun i => sm w fun j => A i j * f j)) n (fun k (s : List Nb × Int) => s.2 = (k : Int) ∧ Lg s.1 k (fun i => sm w fun j => A i j * f j)) ⟨rfl, rfl, fun c hc => absurd hc (by omega)⟩ ?_ (by omega)).mono fun r hr => ⟨_, rfl, hr⟩
  rintro k ⟨o, _⟩ hk ⟨rfl, hI⟩
  simp only at hI
  unfold sparseref08_Times_l1
  simp only
  rw [hT.1, ret_if]
  refine ⟨fun hlt => ?_, fun hge => ⟨_, rfl, by have e : k = n := (by omega); subst e; exact hI⟩⟩
  have hkn : k < n := by omega
  obtain ⟨row, h1, h2⟩ := hT.at hkn (i := (k : Int)) rfl
  rw [h1, obs, ret_bind]
  refine (dot_ok hM h2 hx (fun j hj => bA k j hkn hj) bf hw).mono fun r hr => ?_
  rw [ret_bind, ret_app]
  exact ⟨by rw [hI.1]; simp only [List.length_cons, List.length_nil]; omega, _, rfl, hkn, by show wa .i64 (k : Int) 1 = _; rw [wa_i (by omega) (by omega)]; rfl, hI.snoc (z := (r.1, r.2)) hr⟩
end
theorem place_eq (x : Int) {n : Int} (hn : 0 < n) (hm : n ≤ 1000000) : sparsekit_Place x n = some (x % 18446744073709551616 % n) ∧ 0 ≤ x % 18446744073709551616 % n ∧ x % 18446744073709551616 % n < n := by
  have h1 := Int.emod_nonneg (x % 18446744073709551616) (show n ≠ 0 by omega)
  have h2 := Int.emod_lt_of_pos (x % 18446744073709551616) hn
  refine ⟨?_, h1, h2⟩
  unfold sparsekit_Place
  have e : wc .u64 n = n := wc_u64_in ⟨by omega, by omega⟩
  have hwr : wr (x % 18446744073709551616) n = some (x % 18446744073709551616 % n) := by
    unfold wr
    rw [if_neg (by omega), Int.tmod_eq_emod_of_nonneg (by omega)]
  rw [e, wc_u64, hwr, obs, wc_i64_in ⟨by omega, by omega⟩]
/-- the entries of a square matrix made from numbers -/
def sqe (l : List Int) (n : Nat) : Mx := fun i j => if n * i + j < l.length then l.getD (n * i + j) 0 % 18446744073709551616 % 201 - 100 else 0
theorem sqe_bd (l : List Int) (n i j : Nat) : Bd 100 (sqe l n i j) := by
  unfold sqe
  split
  · have h1 := Int.emod_nonneg (l.getD (n * i + j) 0 % 18446744073709551616) (show (201 : Int) ≠ 0 by omega)
    have h2 := Int.emod_lt_of_pos (l.getD (n * i + j) 0 % 18446744073709551616) (show (0 : Int) < 201 by omega)
    exact ⟨by omega, by omega⟩
  · exact ⟨by omega, by omega⟩
theorem num_ok {v : Int} (h0 : -1000000 ≤ v) (h1 : v ≤ 1000000) : Ret (sparselaw08_num v) (fun r => Bg v r.1 r.2) := by
  unfold sparselaw08_num
  rw [ret_bind]
  exact (fromR_bg (n := v) (by omega) (by omega)).mono fun r hr => ⟨_, rfl, hr⟩
theorem square08_ok {l : List Int} (hl : l.length ≤ 1000) {n : Nat} (hn : n ≤ 16) : Ret (sparselaw08_square l (n : Int)) (fun T => Tg T n n (sqe l n)) := by
  unfold sparselaw08_square
  rw [ret_bind]
  refine (ret_loop (Post := fun T : List (List Nb) => Tg T n n (sqe l n)) n (fun k (s : List (List Nb) × Int) => s.2 = (k : Int) ∧ Tg s.1 k n (sqe l n)) ⟨rfl, rfl, fun c hc => absurd hc (by omega)⟩ ?_ (by omega)).mono fun r hr => ⟨_, rfl, hr⟩
  rintro k ⟨o, _⟩ hk ⟨rfl, hI⟩
  simp only at hI
  unfold sparselaw08_square_l9
  simp only
  rw [ret_if]
  refine ⟨fun hlt => ?_, fun hge => ⟨_, rfl, by have e : k = n := (by omega); subst e; exact hI⟩⟩
  have hkn : k < n := by omega
  rw [ret_bind]
  refine (ret_loop (Post := fun r : List Nb => Lg r n (sqe l n k)) n (fun j (s : List Nb × Int) => s.2 = (j : Int) ∧ Lg s.1 j (sqe l n k)) ⟨rfl, rfl, fun c hc => absurd hc (by omega)⟩ ?_ (by omega)).mono ?_
  · rintro j ⟨r, _⟩ hj ⟨rfl, hJ⟩
    simp only at hJ
    unfold sparselaw08_square_l12
    simp only
    rw [ret_if]
    refine ⟨fun hlt2 => ?_, fun hge => ⟨_, rfl, by have e : j = n := (by omega); subst e; exact hJ⟩⟩
    have hjn : j < n := by omega
    have hnk : n * k ≤ 16 * 16 := Nat.mul_le_mul hn (by omega)
    have hidx : wa .i64 (wm .i64 (n : Int) (k : Int)) (j : Int) = ((n * k + j : Nat) : Int) := by
      have e : (n : Int) * (k : Int) = ((n * k : Nat) : Int) := by push_cast; rfl
      rw [wm_i (by rw [e]; omega) (by rw [e]; omega), e, wa_i (by omega) (by omega)]; rfl
    have fin : ∀ v : Int, v = sqe l n k j → Ret (sparselaw08_square_j13 r (j : Int) v) (VQ (fun s : List Nb × Int => j < n ∧ s.2 = ((j + 1 : Nat) : Int) ∧ Lg s.1 (j + 1) (sqe l n k)) (fun r : List Nb => Lg r n (sqe l n k))) := by
      rintro v rfl
      have hb := sqe_bd l n k j
      unfold sparselaw08_square_j13
      rw [ret_bind]
      refine (num_ok (by have := hb.1; omega) (by have := hb.2; omega)).mono fun z hz => ?_
      rw [ret_bind, ret_app]
      exact ⟨by rw [hJ.1]; simp only [List.length_cons, List.length_nil]; omega, _, rfl, hjn, by show wa .i64 (j : Int) 1 = _; rw [wa_i (by omega) (by omega)]; rfl, hJ.snoc (z := (z.1, z.2)) hz⟩
    rw [hidx, ret_if]
    refine ⟨fun hin => ?_, fun hout => fin 0 (by unfold sqe; rw [if_neg (by omega)])⟩
    have hlt3 : n * k + j < l.length := by omega
    obtain ⟨p1, p2, p3⟩ := place_eq (l.getD (n * k + j) 0) (n := 201) (by omega) (by omega)
    have hg : getI l ((n * k + j : Nat) : Int) = some (l.getD (n * k + j) 0) := at_some (by rw [List.getD_eq_getElem?_getD, List.getElem?_eq_getElem hlt3]; rfl) rfl
    rw [hg, obs, p1, obs, ws_i (by omega) (by omega)]
    exact fin _ (by unfold sqe; rw [if_pos hlt3])
  · intro r hr
    rw [ret_bind, ret_app]
    exact ⟨by rw [hI.1]; simp only [List.length_cons, List.length_nil]; omega, _, rfl, hkn, by show wa .i64 (k : Int) 1 = _; rw [wa_i (by omega) (by omega)]; rfl, hI.snoc hr⟩
/-- the bound for small square matrices -/
def mb (n : Nat) : Int := 2 * (((4 : Nat) : Int) * 100) ^ (n + 2)
theorem mb_ok {n : Nat} (hn : n ≤ 4) : mb n < pw 60 ∧ 100 ≤ mb n := by
  have e : (((4 : Nat) : Int) * 100) = 400 := by decide
  have h1 := pow_mono (X := 400) (by omega) (show n + 2 ≤ 6 by omega)
  have h2 := pow_mono (X := 400) (by omega) (show 1 ≤ n + 2 by omega)
  have h3 : pw 2 ≤ pw 60 := pw_mono (by omega)
  have h4 : (2 : Int) * 400 ^ 6 < pw 2 := by decide
  have h5 : (400 : Int) ^ 1 = 400 := by decide
  unfold mb
  rw [e]
  exact ⟨by omega, by omega⟩
theorem sqe_okb {l : List Int} {n w : Nat} {A : Mx} (hn : n ≤ 4) (hA : ∀ i j, i < n → j < w → Bd 100 (A i j)) : Okb n w A (mb n) := okb_of (K := 4) (M := 100) (by omega) (by omega) hn hA
end Km
/- Transposes, products, Hadamard's bound as the program computes it. -/
namespace Km
open Sx Go M Vc Lm Dt
section
variable {n w : Nat} {A : Mx} {T : List (List Nb)} {M : Int}
theorem rcols_ok (hT : Tg T n w A) : sparseref08_Cols T = some (if n = 0 then 0 else (w : Int)) := by
  unfold sparseref08_Cols
  by_cases h0 : n = 0
  · rw [if_pos (by rw [hT.1]; omega), if_pos h0]
  · rw [if_neg (by rw [hT.1]; omega), if_neg h0]
    obtain ⟨l, h1, h2⟩ := hT.at (r := 0) (by omega) (i := 0) rfl
    rw [h1, obs, h2.1]
theorem transp_ok (hT : Tg T n w A) (hn : n ≤ 900) (hw : w ≤ 900) (hn0 : 0 < n ∨ w = 0) : Ret (sparseref08_Transpose T) (fun r => Tg r w n (tp A)) := by
  unfold sparseref08_Transpose
  rw [ret_bind]
  refine (ret_loop (Post := fun r : List (List Nb) => Tg r w n (tp A)) w (fun j (s : List (List Nb) × Int) => s.2 = (j : Int) ∧ Tg s.1 j n (tp A)) ⟨rfl, rfl, fun c hc => absurd hc (by omega)⟩ ?_ (by omega)).mono fun r hr => ⟨_, rfl, hr⟩
  rintro j ⟨o, _⟩ hj ⟨rfl, hI⟩
  simp only at hI
  unfold sparseref08_Transpose_l3
  simp only
  rw [rcols_ok hT, obs, ret_if]
  refine ⟨fun hlt => ?_, fun hge => ⟨_, rfl, by
    have e : j = w := by
      by_cases h0 : n = 0
      · omega
      · rw [if_neg h0] at hge; omega
    subst e; exact hI⟩⟩
  have hjw : j < w := by
    by_cases h0 : n = 0
    · rw [if_pos h0] at hlt; omega
    · rw [if_neg h0] at hlt; omega
  rw [ret_bind]
  refine (ret_loop (Post := fun r : List Nb => Lg r n (tp A j)) n (fun i (s : List Nb × Int) => s.2 = (i : Int) ∧ Lg s.1 i (tp A j)) ⟨rfl, rfl, fun c hc => absurd hc (by omega)⟩ ?_ (by omega)).mono ?_
  · rintro i ⟨r, _⟩ hi ⟨rfl, hJ⟩
    simp only at hJ
    unfold sparseref08_Transpose_l4
    simp only
    rw [hT.1, ret_if]
    refine ⟨fun hlt2 => ?_, fun hge => ⟨_, rfl, by have e : i = n := (by omega); subst e; exact hJ⟩⟩
    have hin : i < n := by omega
    obtain ⟨row, h1, h2⟩ := hT.at hin (i := (i : Int)) rfl
    obtain ⟨z, h3, h4⟩ := h2.at hjw (i := (j : Int)) rfl
    rw [h1, obs, h3, obs, ret_bind, ret_app]
    exact ⟨by rw [hJ.1]; simp only [List.length_cons, List.length_nil]; omega, _, rfl, hin, by show wa .i64 (i : Int) 1 = _; rw [wa_i (by omega) (by omega)]; rfl, hJ.snoc (z := (z.1, z.2)) h4⟩
  · intro r hr
    rw [ret_bind, ret_app]
    exact ⟨by rw [hI.1]; simp only [List.length_cons, List.length_nil]; omega, _, rfl, hjw, by show wa .i64 (j : Int) 1 = _; rw [wa_i (by omega) (by omega)]; rfl, hI.snoc hr⟩
/-- bounds of products -/
theorem pr_nn {n : Nat} {f : Nat → Int} (h : ∀ i, i < n → 0 ≤ f i) : 0 ≤ pr n f := by
  induction n with
  | zero => show (0 : Int) ≤ 1; omega
  | succ n ih => exact Int.mul_nonneg (ih fun i hi => h i (by omega)) (h n (by omega))
theorem pr_le {n : Nat} {f : Nat → Int} {X : Int} (h : ∀ i, i < n → 0 ≤ f i ∧ f i ≤ X) : pr n f ≤ X ^ n := by
  induction n with
  | zero => show (1 : Int) ≤ X ^ 0; rw [Int.pow_zero]; exact Int.le_refl _
  | succ n ih =>
    have h1 := ih fun i hi => h i (by omega)
    have h2 := h n (by omega)
    have h3 := pr_nn (n := n) (f := f) fun i hi => (h i (by omega)).1
    rw [Int.pow_succ]
    exact Int.mul_le_mul h1 h2.2 h2.1 (Int.le_trans h3 h1)
end
end Km
/- Tables of raw numbers: checks, copies, inner products, least squares. -/
namespace Km
open Sx Go M Vc Lm Dt
/-- a raw number: limbs, at most K of them, with the value v -/
def Rw (K : Nat) (v : Int) (z : Nb) : Prop := LW z.2 ∧ z.2.length ≤ K ∧ sv z.1 z.2 = v
def Lr (K : Nat) (l : List Nb) (w : Nat) (f : Nat → Int) : Prop := l.length = w ∧ ∀ c, c < w → ∃ z, l[c]? = some z ∧ Rw K (f c) z
def Tr (K : Nat) (T : List (List Nb)) (n w : Nat) (A : Mx) : Prop := T.length = n ∧ ∀ r, r < n → ∃ l, T[r]? = some l ∧ Lr K l w (A r)
theorem Rw.bd {K : Nat} {v : Int} {z : Nb} (h : Rw K v z) : Bd (pw K) v := by
  obtain ⟨h1, h2, h3⟩ := h
  have a1 := lv_nn h1
  have a2 := lv_lt h1
  have a3 := pw_mono h2
  unfold sv at h3
  split at h3
  · exact ⟨by omega, by omega⟩
  · exact ⟨by omega, by omega⟩
theorem Bg.rw {K : Nat} {v : Int} {z : Nb} (h : Bg v z.1 z.2) (hl : z.2.length ≤ K) : Rw K v z := ⟨h.1, hl, h.sv⟩
theorem Lg.lr {K : Nat} {l : List Nb} {w : Nat} {f : Nat → Int} {M : Int} (h : Lg l w f) (hb : ∀ j, j < w → Bd M (f j)) (hM : M < pw K) : Lr K l w f := ⟨h.1, fun c hc => by
  obtain ⟨z, h1, h2⟩ := h.2 c hc
  exact ⟨z, h1, h2.rw (h2.lenB (hb c hc) hM)⟩⟩
theorem Tg.tr {K : Nat} {T : List (List Nb)} {n w : Nat} {A : Mx} {M : Int} (h : Tg T n w A) (hb : ∀ i j, i < n → j < w → Bd M (A i j)) (hM : M < pw K) : Tr K T n w A := ⟨h.1, fun r hr => by
  obtain ⟨l, h1, h2⟩ := h.2 r hr
  exact ⟨l, h1, h2.lr (fun j hj => hb r j hr hj) hM⟩⟩
theorem Lr.at {K : Nat} {l : List Nb} {w : Nat} {f : Nat → Int} (h : Lr K l w f) {c : Nat} (hc : c < w) {i : Int} (hi : i = (c : Int)) : ∃ z, getI l i = some z ∧ Rw K (f c) z := by
  obtain ⟨z, h1, h2⟩ := h.2 c hc
  exact ⟨z, at_some h1 hi, h2⟩
theorem Tr.at {K : Nat} {T : List (List Nb)} {n w : Nat} {A : Mx} (h : Tr K T n w A) {r : Nat} (hr : r < n) {i : Int} (hi : i = (r : Int)) : ∃ l, getI T i = some l ∧ Lr K l w (A r) := by
  obtain ⟨l, h1, h2⟩ := h.2 r hr
  exact ⟨l, at_some h1 hi, h2⟩
/-- the form of a table -/
def Sh (T : List (List Nb)) (n w : Nat) : Prop := T.length = n ∧ ∀ r, r < n → ∃ l, T[r]? = some l ∧ l.length = w
theorem Tr.sh {K : Nat} {T : List (List Nb)} {n w : Nat} {A : Mx} (h : Tr K T n w A) : Sh T n w := ⟨h.1, fun r hr => by
  obtain ⟨l, h1, h2⟩ := h.2 r hr
  exact ⟨l, h1, h2.1⟩⟩
theorem Tg.sh {T : List (List Nb)} {n w : Nat} {A : Mx} (h : Tg T n w A) : Sh T n w := ⟨h.1, fun r hr => by
  obtain ⟨l, h1, h2⟩ := h.2 r hr
  exact ⟨l, h1, h2.1⟩⟩
theorem Sh.at {T : List (List Nb)} {n w : Nat} (h : Sh T n w) {r : Nat} (hr : r < n) {i : Int} (hi : i = (r : Int)) : ∃ l, getI T i = some l ∧ l.length = w := by
  obtain ⟨l, h1, h2⟩ := h.2 r hr
  exact ⟨l, at_some h1 hi, h2⟩
section
variable {n w K : Nat} {A : Mx} {T : List (List Nb)}
theorem ycolumns_ok (hT : Sh T n w) : exact_columns T = some (if n = 0 then 0 else (w : Int)) := by
  unfold exact_columns
  by_cases h0 : n = 0
  · rw [if_pos (by rw [hT.1]; omega), if_pos h0]
  · rw [if_neg (by rw [hT.1]; omega), if_neg h0]
    obtain ⟨l, h1, h2⟩ := hT.at (r := 0) (by omega) (i := 0) rfl
    rw [h1, obs, h2]
theorem yrcols_ok (hT : Sh T n w) : sparseref08_Cols T = some (if n = 0 then 0 else (w : Int)) := by
  unfold sparseref08_Cols
  by_cases h0 : n = 0
  · rw [if_pos (by rw [hT.1]; omega), if_pos h0]
  · rw [if_neg (by rw [hT.1]; omega), if_neg h0]
    obtain ⟨l, h1, h2⟩ := hT.at (r := 0) (by omega) (i := 0) rfl
    rw [h1, obs, h2]
theorem ycheck_ok (hT : Sh T n w) (hn : n ≤ 16) (hw : w ≤ 16) : exact_check T = some 0 := by
  have hc : slices_ContainsFunc_apiBig T (if n = 0 then 0 else (w : Int)) = some false := by
    refine Ret.eq ?_
    unfold slices_ContainsFunc_apiBig slices_IndexFunc_apiBig
    rw [ret_bind, ret_bind]
    refine (ret_loop (Post := fun o => o = .inl ()) n (fun k (i : Int) => i = (k : Int)) rfl ?_ (by omega)).mono ?_
    · rintro k _ hk rfl
      unfold slices_IndexFunc_apiBig_l1
      rw [hT.1, ret_if]
      refine ⟨fun hlt => ?_, fun _ => ⟨_, rfl, rfl⟩⟩
      obtain ⟨l, h1, h2⟩ := hT.at (r := k) (by omega) (i := (k : Int)) rfl
      unfold exact_check_1
      rw [h1, obs, obs, h2, if_neg (show ¬ n = 0 by omega)]
      simp only [decide_true, Bool.not_true, Bool.false_eq_true, if_false]
      exact ⟨_, rfl, by omega, by show wa .i64 (k : Int) 1 = _; rw [wa_i (by omega) (by omega)]; rfl⟩
    · rintro _ rfl
      exact ⟨_, rfl, _, rfl, rfl⟩
  unfold exact_check
  rw [ycolumns_ok hT, obs, hc, obs, if_neg (by simp), hT.1, if_neg]
  simp only [Bool.or_eq_true, decide_eq_true_eq, not_or]
  split <;> omega
theorem ysquare_ok (hT : Sh T n n) (hn : n ≤ 16) : exact_square T = some 0 := by
  unfold exact_square
  rw [ycheck_ok hT hn hn, obs, if_pos rfl, ycolumns_ok hT, obs, hT.1]
  have : (!(decide ((n : Int) = if n = 0 then 0 else (n : Int)))) = false := by split <;> simp <;> omega
  rw [this, obs, if_neg (by simp)]
theorem normR_ok {v : Int} {z : Nb} (hz : Rw K v z) (hK : K ≤ 400) : Ret (integer_Norm z.1 z.2) (fun r => Bg v r.1 r.2) := (normP_bg (s := z.1) hz.1 (by have := hz.2.1; omega)).mono fun r hr => by rw [hz.2.2] at hr; exact hr
theorem yrowtwin_ok {row : List Nb} {f : Nat → Int} (hrow : Lr K row w f) (hK : K ≤ 400) (hw : w ≤ 1000) : Ret (loop (exact_twin_l6 row) ([], 0)) (fun o => Lg o w f) := by
  refine ret_loop (Post := fun o : List Nb => Lg o w f) w (fun k (s : List Nb × Int) => s.2 = (k : Int) ∧ Lg s.1 k f) ⟨rfl, rfl, fun c hc => absurd hc (by omega)⟩ ?_ (by omega)
  rintro k ⟨o, _⟩ hk ⟨rfl, hI⟩
  simp only at hI
  unfold exact_twin_l6
  simp only
  rw [hrow.1, ret_if]
  refine ⟨fun hlt => ?_, fun hge => ⟨_, rfl, by have e : k = w := (by omega); subst e; exact hI⟩⟩
  have hkw : k < w := by omega
  obtain ⟨z, h1, h2⟩ := hrow.at hkw (i := (k : Int)) rfl
  rw [h1, obs, ret_bind]
  refine (normR_ok h2 hK).mono fun r hr => ?_
  rw [ret_bind, ret_app]
  refine ⟨by rw [hI.1]; simp only [List.length_cons, List.length_nil]; omega, _, rfl, hkw, by show wa .i64 (k : Int) 1 = _; rw [wa_i (by omega) (by omega)]; rfl, hI.snoc (z := (r.1, r.2)) hr⟩
theorem ytwin0_ok (hT : Tr K T n w A) (hK : K ≤ 400) (hn : n ≤ 1000) (hw : w ≤ 1000) : Ret (exact_twin T []) (fun o => Tg o n w A) := by
  unfold exact_twin
  rw [ret_bind]
  refine (ret_loop (Post := fun o : List (List Nb) => Tg o n w A) n (fun k (s : List (List Nb) × Int) => s.2 = (k : Int) ∧ Tg s.1 k w A) ⟨rfl, rfl, fun c hc => absurd hc (by omega)⟩ ?_ (by omega)).mono fun r hr => ⟨_, rfl, hr⟩
  rintro k ⟨o, _⟩ hk ⟨rfl, hI⟩
  simp only at hI
  unfold exact_twin_l5
  simp only
  rw [hT.1, ret_if]
  refine ⟨fun hlt => ?_, fun hge => ⟨_, rfl, by have e : k = n := (by omega); subst e; exact hI⟩⟩
  have hkn : k < n := by omega
  obtain ⟨row, h1, h2⟩ := hT.at hkn (i := (k : Int)) rfl
  rw [h1, obs, ret_bind]
  refine (yrowtwin_ok h2 hK hw).mono fun r hr => ?_
  rw [if_neg (by simp)]
  unfold exact_twin_j7
  rw [ret_bind, ret_app]
  exact ⟨by rw [hI.1]; simp only [List.length_cons, List.length_nil]; omega, _, rfl, hkn, by show wa .i64 (k : Int) 1 = _; rw [wa_i (by omega) (by omega)]; rfl, hI.snoc hr⟩
theorem ytwin1_ok (hT : Tr K T n w A) {b : List Nb} {g : Nat → Int} (hb : Lr K b n g) (hK : K ≤ 400) (hn : n ≤ 1000) (hw : w ≤ 1000) : Ret (exact_twin T b) (fun o => Tg o n (w + 1) (aug A w g)) := by
  unfold exact_twin
  rw [ret_bind]
  refine (ret_loop (Post := fun o : List (List Nb) => Tg o n (w + 1) (aug A w g)) n (fun k (s : List (List Nb) × Int) => s.2 = (k : Int) ∧ Tg s.1 k (w + 1) (aug A w g)) ⟨rfl, rfl, fun c hc => absurd hc (by omega)⟩ ?_ (by omega)).mono fun r hr => ⟨_, rfl, hr⟩
  rintro k ⟨o, _⟩ hk ⟨rfl, hI⟩
  simp only at hI
  unfold exact_twin_l5
  simp only
  rw [hT.1, ret_if]
  refine ⟨fun hlt => ?_, fun hge => ⟨_, rfl, by have e : k = n := (by omega); subst e; exact hI⟩⟩
  have hkn : k < n := by omega
  obtain ⟨row, h1, h2⟩ := hT.at hkn (i := (k : Int)) rfl
  obtain ⟨z, h3, h4⟩ := hb.at hkn (i := (k : Int)) rfl
  rw [h1, obs, ret_bind]
  refine (yrowtwin_ok h2 hK hw).mono fun r hr => ?_
  rw [if_pos (by rw [hb.1]; omega), h3, obs, ret_bind]
  refine (normR_ok h4 hK).mono fun y hy => ?_
  rw [ret_bind, ret_app]
  refine ⟨by rw [hr.1]; simp only [List.length_cons, List.length_nil]; omega, ?_⟩
  unfold exact_twin_j7
  rw [ret_bind, ret_app]
  have hr' : Lg r w (aug A w g k) := hr.congr fun c hc => by unfold aug; rw [if_neg (by omega)]
  have hrow : Lg (r ++ [(y.1, y.2)]) (w + 1) (aug A w g k) := hr'.snoc (z := (y.1, y.2)) (hy.cast (by unfold aug; rw [if_pos rfl]))
  exact ⟨by rw [hI.1]; simp only [List.length_cons, List.length_nil]; omega, _, rfl, hkn, by show wa .i64 (k : Int) 1 = _; rw [wa_i (by omega) (by omega)]; rfl, hI.snoc hrow⟩
/-- Solve, raw -/
theorem ysolve_ok {M : Int} (hM : M < pw 60) (hT : Tr K T n n A) {b : List Nb} {g : Nat → Int} (hb : Lr K b n g) (hK : K ≤ 400) (hR : Okb n (n + 1) (aug A n g) M) (hn : n ≤ 16) (hn0 : 0 < n) :
    Ret (exact_Solve T b) (fun r => (r.2.2.2 = 9 ∧ det n A = 0 ∧ r.1 = [] ∧ r.2.1 = false ∧ r.2.2.1 = []) ∨ (r.2.2.2 = 0 ∧ det n A ≠ 0 ∧ ∃ x, Lg r.1 n x ∧ Bg (if det n A < 0 then - det n A else det n A) r.2.1 r.2.2.1 ∧ (∀ i, i < n → Bd M (x i)) ∧ ∀ i, i < n → sm n (fun j => A i j * x j) = (if det n A < 0 then - det n A else det n A) * g i)) := by
  have hda : det n (aug A n g) = det n A := det_congr fun i j hi hj => by unfold aug; rw [if_neg (by omega)]
  unfold exact_Solve
  rw [ysquare_ok hT.sh hn, obs, if_pos rfl, hb.1, hT.1, if_pos rfl, ret_bind]
  refine (ytwin1_ok hT hb hK (by omega) (by omega)).mono fun T' hT' => ?_
  rw [ret_bind]
  refine (eliminate_ok (cw := n) hM hR (by omega) (by omega) (by omega) hT').mono ?_
  rintro ⟨R, pv, zs, zl, sn⟩ ⟨A', col, k, hB, hTR, hpv, hd⟩
  simp only at hB hTR hpv hd ⊢
  have hpl : pv.length = k := by rw [hpv, List.length_map, List.length_range]
  rw [hpl, ret_if]
  refine ⟨fun hlt => ⟨_, rfl, .inl ⟨rfl, ?_, rfl, rfl, rfl⟩⟩, fun hge => ?_⟩
  · rw [← hda]; exact hB.det0 (by omega)
  · have hkn := hB.kn
    obtain rfl : k = n := by omega
    have hdet := hB.det_ok
    rw [hda] at hdet
    have hsol := hB.solve
    have hdn := hB.d
    have hcols : ∀ s, s < k → col s < k + 1 := fun s hs => by have := hB.lt s hs; omega
    have bd := (hR A' col k 0 0 (bar_rows hB) (Nat.le_refl k) hcols hn0 (by omega)).2
    have bX : ∀ i, i < k → Bd M (Rk A' col k i k) := fun i hi => (hR A' col k i k (bar_rows hB) (Nat.le_refl k) hcols hi (by omega)).1
    have ld := hd.lenB bd hM
    generalize hD : det k (Pm_ A' col) = D at *
    have habs : (if det k A < 0 then - det k A else det k A) = if D < 0 then -D else D := by
      rcases hB.sg.1 with h | h
      · rw [h, Int.one_mul] at hdet; rw [hdet]
      · rw [h] at hdet
        have : D = - det k A := by omega
        rw [this]; split <;> split <;> omega
    have hne : det k A ≠ 0 := by
      intro h; rw [h, Int.mul_zero] at hdet; exact hdn hdet
    rw [ret_bind]
    refine (ret_loop (Post := fun o : List Nb => Lg o k (fun i => if D < 0 then - Rk A' col k i k else Rk A' col k i k)) k (fun i (s : List Nb × Int) => s.2 = (i : Int) ∧ Lg s.1 i (fun i => if D < 0 then - Rk A' col k i k else Rk A' col k i k)) ⟨rfl, rfl, fun c hc => absurd hc (by omega)⟩ ?_ (by omega)).mono ?_
    · rintro i ⟨o, _⟩ hi ⟨rfl, hI⟩
      simp only at hI
      unfold exact_Solve_l1
      simp only
      rw [hTR.1, hT.1, ret_if]
      refine ⟨fun hlt => ?_, fun hge2 => ⟨_, rfl, by have e : i = k := (by omega); subst e; exact hI⟩⟩
      have hik : i < k := by omega
      obtain ⟨row, h1, h2⟩ := hTR.at hik (i := (i : Int)) rfl
      obtain ⟨z, h3, h4⟩ := h2.at (show k < k + 1 by omega) (i := (k : Int)) rfl
      have lz := h4.lenB (bX i hik) hM
      rw [h1, obs, h3, obs, ret_bind]
      refine (turned_ok hd h4 (by omega) (by omega)).mono fun r hr => ?_
      rw [ret_bind, ret_app]
      exact ⟨by rw [hI.1]; simp only [List.length_cons, List.length_nil]; omega, _, rfl, hik, by show wa .i64 (i : Int) 1 = _; rw [wa_i (by omega) (by omega)]; rfl, hI.snoc (z := (r.1, r.2)) hr⟩
    · intro xs hxs
      rw [ret_bind]
      refine (absP_bg (s := zs) hd.1 (by omega)).mono fun r hr => ⟨_, rfl, .inr ⟨rfl, hne, _, hxs, ?_, ?_, ?_⟩⟩
      · rw [hd.abs] at hr
        rw [habs]; exact hr
      · intro i hi
        have := bX i hi
        split
        · exact this.neg
        · exact this
      · intro i hi
        rw [habs]
        have h1 := hsol i hi
        have e1 : sm k (fun j => aug A k g i j * Rk A' col k j k) = sm k (fun j => A i j * Rk A' col k j k) := sm_congr fun j hj => by unfold aug; rw [if_neg (by omega)]
        have e2 : aug A k g i k = g i := by unfold aug; rw [if_pos rfl]
        rw [e1, e2] at h1
        by_cases hn2 : D < 0
        · rw [if_pos hn2]
          have e3 : sm k (fun j => A i j * (if D < 0 then - Rk A' col k j k else Rk A' col k j k)) = -1 * sm k (fun j => A i j * Rk A' col k j k) := by
            rw [← sm_mul]; exact sm_congr fun j hj => by rw [if_pos hn2]; grind
          rw [e3, h1]; grind
        · rw [if_neg hn2]
          have e3 : sm k (fun j => A i j * (if D < 0 then - Rk A' col k j k else Rk A' col k j k)) = sm k (fun j => A i j * Rk A' col k j k) := sm_congr fun j hj => by rw [if_neg hn2]
          rw [e3, h1]
theorem Lg.zeros' (w : Nat) : Lg (List.replicate w ((false, []) : Nb)) w (fun _ => 0) := ⟨List.length_replicate .., fun c hc => ⟨(false, []), by rw [List.getElem?_replicate, if_pos hc], bg_zero⟩⟩
theorem solve_nil : exact_Solve [] [] = some ([], false, [1], 0) := by kernel_rfl
/-- the sum of the products of two columns -/
theorem iprod {K : Nat} {v u s : Int} {m : Nat} {y z q : Nb} (hK : K ≤ 60) (hy : Rw K v y) (hz : Rw K u z) (hq : Bg s q.1 q.2) (hs : q.2.length ≤ 500) : Ret ((integer_Mul y.1 y.2 z.1 z.2).bind fun r => integer_Add q.1 q.2 r.1 r.2) (fun r => Bg (s + v * u) r.1 r.2) := by
  have l1 := hy.2.1
  have l2 := hz.2.1
  rw [ret_bind]
  refine (mul_bg (s := y.1) (t := z.1) hy.1 hz.1 (by omega) (by omega)).mono fun r hr => ?_
  rw [hy.2.2, hz.2.2] at hr
  have lr : r.2.length ≤ 2 * K + 1 := hr.lenB (hy.bd.mul hz.bd) (by
    have h1 : pw (K + K) = pw K * pw K := pw_add K K
    have h2 : pw (K + K + 1) = B * pw (K + K) := rfl
    have h3 := pw_pos (K + K)
    have e2 : B = 4294967296 := rfl
    have : 2 * K + 1 = K + K + 1 := by omega
    rw [this, h2, ← h1, e2]; omega)
  refine (add_bg (s := q.1) (t := r.1) hq.1 hr.1 (by omega) (by omega)).mono fun t ht => ?_
  rw [hq.sv, hr.sv] at ht
  exact ht
end
end Km
/- Rank and Least, from raw tables. -/
namespace Km
open Sx Go M Vc Lm Dt
section
variable {n w K : Nat} {A : Mx} {T : List (List Nb)}
theorem yrank_ok {M : Int} (hM : M < pw 60) (hT : Tr K T n w A) (hK : K ≤ 400) (hR : Okb n w A M) (hn : n ≤ 16) (hw : w ≤ 16) (hn0 : 0 < n ∨ w = 0) : ∃ k : Nat, exact_Rank T = some ((k : Int), 0) ∧ ∃ A' col sn, Bar n w A A' col k w sn := by
  obtain ⟨T', ht, hT'⟩ := ytwin0_ok hT hK (by omega) (by omega)
  obtain ⟨⟨R, pv, zs, zl, sn⟩, hel, A', col, k, hB, hTR, hpv, hd⟩ := eliminate_ok (cw := w) hM hR (Nat.le_refl w) (by omega) (by omega) hT'
  simp only at hB hTR hpv hd
  have hpl : pv.length = k := by rw [hpv, List.length_map, List.length_range]
  refine ⟨k, ?_, A', col, sn, hB⟩
  have hcol : exact_columns T = some (w : Int) := by
    rw [ycolumns_ok hT.sh]
    split
    · rename_i h0; have : w = 0 := (by omega); rw [this]; rfl
    · rfl
  unfold exact_Rank
  rw [ycheck_ok hT.sh hn hw, obs, if_pos rfl, ht, obs, hcol, obs, hel, obs]
  simp only
  rw [hpl]
theorem inner_ok {b : List Nb} {g : Nat → Int} {i : Nat} (hT : Tr K T n w A) (hb : Lr K b n g) (hK : K ≤ 60) (hi : i < w) (hn : n ≤ 900) : Ret (exact_inner T (i : Int) b) (fun r => Bg (sm n fun k => A k i * g k) r.1 r.2) := by
  unfold exact_inner
  rw [ret_bind]
  refine (ret_loop (Post := fun r : Bool × List Int => Bg (sm n fun k => A k i * g k) r.1 r.2) n (fun k (s : Bool × List Int × Int) => s.2.2 = (k : Int) ∧ Bg (sm k fun k => A k i * g k) s.1 s.2.1) ⟨rfl, bg_zero.cast (show (0 : Int) = sm 0 (fun k => A k i * g k) from rfl)⟩ ?_ (by omega)).mono fun r hr => ⟨_, rfl, hr⟩
  rintro k ⟨zs, zl, _⟩ hk ⟨rfl, hI⟩
  simp only at hI
  unfold exact_inner_l1
  simp only
  rw [hT.1, ret_if]
  refine ⟨fun hlt => ?_, fun hge => ⟨_, rfl, by have e : k = n := (by omega); subst e; exact hI⟩⟩
  have hkn : k < n := by omega
  obtain ⟨row, h1, h2⟩ := hT.at hkn (i := (k : Int)) rfl
  obtain ⟨y, h3, h4⟩ := h2.at hi (i := (i : Int)) rfl
  obtain ⟨z, h5, h6⟩ := hb.at hkn (i := (k : Int)) rfl
  have hp := pw_pos K
  have ls : zl.length ≤ 2 * K + 2 := by
    have hb1 := sm_bd (n := k) (M := pw K * pw K) (Int.mul_nonneg (by omega) (by omega)) fun x hx => by
      obtain ⟨rx, r1, r2⟩ := hT.2 x (by omega)
      obtain ⟨zx, r3, r4⟩ := r2.2 i hi
      obtain ⟨bx, r5, r6⟩ := hb.2 x (by omega)
      exact r4.bd.mul r6.bd
    refine hI.lenB hb1 ?_
    have e1 : pw (K + K) = pw K * pw K := pw_add K K
    have e2 : pw (K + K + 1) = B * pw (K + K) := rfl
    have e3 : pw (K + K + 2) = B * pw (K + K + 1) := rfl
    have e4 : B = 4294967296 := rfl
    have h3 := pw_pos (K + K)
    have e5 : (k : Int) * (pw K * pw K) ≤ 1000 * (pw K * pw K) := Int.mul_le_mul_of_nonneg_right (by omega) (by omega)
    have : 2 * K + 2 = K + K + 2 := by omega
    rw [this, e3, e2, e4]
    omega
  unfold exact_Least_1
  rw [h1, obs, h3, obs, h5, obs, obs]
  have := iprod (s := sm k fun k => A k i * g k) (m := 0) (q := (zs, zl)) hK h4 h6 hI (by simp only; omega)
  simp only at this
  rw [ret_bind] at this
  rw [ret_bind]
  refine this.mono fun r hr => ?_
  rw [ret_bind]
  refine hr.mono fun t ht => ?_
  exact ⟨_, rfl, hkn, by show wa .i64 (k : Int) 1 = _; rw [wa_i (by omega) (by omega)]; rfl, ht⟩
theorem inner2_ok {i j : Nat} (hT : Tr K T n w A) (hK : K ≤ 60) (hi : i < w) (hj : j < w) (hn : n ≤ 900) : Ret (exact_inner_v2 T (i : Int) T (j : Int)) (fun r => Bg (gram n A i j) r.1 r.2) := by
  unfold exact_inner_v2
  rw [ret_bind]
  refine (ret_loop (Post := fun r : Bool × List Int => Bg (gram n A i j) r.1 r.2) n (fun k (s : Bool × List Int × Int) => s.2.2 = (k : Int) ∧ Bg (sm k fun k => A k i * A k j) s.1 s.2.1) ⟨rfl, bg_zero.cast (show (0 : Int) = sm 0 (fun k => A k i * A k j) from rfl)⟩ ?_ (by omega)).mono fun r hr => ⟨_, rfl, hr⟩
  rintro k ⟨zs, zl, _⟩ hk ⟨rfl, hI⟩
  simp only at hI
  unfold exact_inner_v2_l1
  simp only
  rw [hT.1, ret_if]
  refine ⟨fun hlt => ?_, fun hge => ⟨_, rfl, by have e : k = n := (by omega); subst e; exact hI⟩⟩
  have hkn : k < n := by omega
  obtain ⟨row, h1, h2⟩ := hT.at hkn (i := (k : Int)) rfl
  obtain ⟨y, h3, h4⟩ := h2.at hi (i := (i : Int)) rfl
  obtain ⟨z, h5, h6⟩ := h2.at hj (i := (j : Int)) rfl
  have hp := pw_pos K
  have ls : zl.length ≤ 2 * K + 2 := by
    have hb1 := sm_bd (n := k) (M := pw K * pw K) (Int.mul_nonneg (by omega) (by omega)) fun x hx => by
      obtain ⟨rx, r1, r2⟩ := hT.2 x (by omega)
      obtain ⟨zx, r3, r4⟩ := r2.2 i hi
      obtain ⟨bx, r5, r6⟩ := r2.2 j hj
      exact r4.bd.mul r6.bd
    refine hI.lenB hb1 ?_
    have e1 : pw (K + K) = pw K * pw K := pw_add K K
    have e2 : pw (K + K + 1) = B * pw (K + K) := rfl
    have e3 : pw (K + K + 2) = B * pw (K + K + 1) := rfl
    have e4 : B = 4294967296 := rfl
    have h3 := pw_pos (K + K)
    have e5 : (k : Int) * (pw K * pw K) ≤ 1000 * (pw K * pw K) := Int.mul_le_mul_of_nonneg_right (by omega) (by omega)
    have : 2 * K + 2 = K + K + 2 := by omega
    rw [this, e3, e2, e4]
    omega
  unfold exact_Least_2
  rw [h1, obs, h3, obs, obs, h5, obs, obs]
  have := iprod (s := sm k fun k => A k i * A k j) (m := 0) (q := (zs, zl)) hK h4 h6 hI (by simp only; omega)
  simp only at this
  rw [ret_bind] at this
  rw [ret_bind]
  refine this.mono fun r hr => ?_
  rw [ret_bind]
  refine hr.mono fun t ht => ?_
  exact ⟨_, rfl, hkn, by show wa .i64 (k : Int) 1 = _; rw [wa_i (by omega) (by omega)]; rfl, ht⟩
/-- the normal matrix on its way -/
def Pn_ (n w : Nat) (A : Mx) (i j : Nat) (S : List (List Nb)) : Prop := S.length = w ∧ ∀ r, r < w → ∃ l, S[r]? = some l ∧ Lg l (if r < i then w else if r = i then j else 0) (gram n A r)
theorem yleast_ok {M G : Int} (hM : M < pw 60) (hT : Tr K T n w A) {b : List Nb} {g : Nat → Int} (hb : Lr K b n g) (hK : K ≤ 60) (hR : Okb w (w + 1) (aug (gram n A) w fun i => sm n fun k => A k i * g k) M) (hG : G < pw 200) (hG1 : ∀ i j, i < w → j < w → Bd G (gram n A i j)) (hG2 : ∀ i, i < w → Bd G (sm n fun k => A k i * g k)) (hn : n ≤ 16) (hw : w ≤ 16) (hw0 : 0 < w) (hn0 : 0 < n) :
    Ret (exact_Least T b) (fun r => (r.2.2.2 = 9 ∧ det w (gram n A) = 0 ∧ r.1 = [] ∧ r.2.1 = false ∧ r.2.2.1 = []) ∨ (r.2.2.2 = 0 ∧ det w (gram n A) ≠ 0 ∧ ∃ x, Lg r.1 w x ∧ Bg (if det w (gram n A) < 0 then - det w (gram n A) else det w (gram n A)) r.2.1 r.2.2.1 ∧ (∀ i, i < w → Bd M (x i)) ∧ ∀ i, i < w → sm w (fun j => gram n A i j * x j) = (if det w (gram n A) < 0 then - det w (gram n A) else det w (gram n A)) * sm n fun k => A k i * g k)) := by
  have hcol : exact_columns T = some (w : Int) := by rw [ycolumns_ok hT.sh, if_neg (by omega)]
  unfold exact_Least
  rw [ycheck_ok hT.sh hn hw, obs, if_pos rfl, hb.1, hT.1, if_pos rfl, hcol, obs, ret_bind, ret_mkL]
  refine ⟨by omega, by omega, ?_⟩
  rw [ret_bind, ret_mkL]
  refine ⟨by omega, by omega, ?_⟩
  rw [Int.toNat_natCast, ret_bind]
  refine (ret_loop (Post := fun r : List (List Nb) × List Nb => Tg r.1 w w (gram n A) ∧ Lg r.2 w (fun i => sm n fun k => A k i * g k)) w (fun i (s : List (List Nb) × List Nb × Int) => s.2.2 = (i : Int) ∧ Pn_ n w A i 0 s.1 ∧ Lg s.2.1 w (fun r => if r < i then sm n fun k => A k r * g k else 0)) ⟨rfl, ⟨List.length_replicate .., fun r hr => ⟨[], by rw [List.getElem?_replicate, if_pos hr], by
    rw [if_neg (by omega)]
    split <;> exact ⟨rfl, fun c hc => absurd hc (by omega)⟩⟩⟩, (Lg.zeros' w).congr fun c _ => by rw [if_neg (by omega)]⟩ ?_ (by omega)).mono ?_
  · rintro i ⟨S, rt, _⟩ hi ⟨rfl, hS, hr⟩
    simp only at hS hr
    unfold exact_Least_l4
    simp only
    rw [ret_if]
    refine ⟨fun hlt => ?_, fun hge => ⟨_, rfl, ?_⟩⟩
    · have hiw : i < w := by omega
      rw [ret_bind]
      refine (inner_ok hT hb hK hiw (by omega)).mono fun y hy => ?_
      rw [set_some (by rw [hr.1]; exact hiw) rfl, obs, ret_bind]
      have hr' : Lg (rt.set i (y.1, y.2)) w (fun r => if r < i + 1 then sm n fun k => A k r * g k else 0) := (hr.set hiw (z := (y.1, y.2)) hy).congr fun c hc => by
        by_cases e : c = i
        · subst e; rw [if_pos rfl, if_pos (by omega)]
        · rw [if_neg e]
          by_cases hci : c < i
          · rw [if_pos hci, if_pos (by omega)]
          · rw [if_neg hci, if_neg (by omega)]
      refine (ret_loop (Post := fun S' : List (List Nb) => Pn_ n w A (i + 1) 0 S') w (fun j (s : List (List Nb) × Int) => s.2 = (j : Int) ∧ Pn_ n w A i j s.1) ⟨rfl, hS⟩ ?_ (by omega)).mono fun S' hS' => ⟨_, rfl, hiw, by show wa .i64 (i : Int) 1 = _; rw [wa_i (by omega) (by omega)]; rfl, hS', hr'⟩
      rintro j ⟨S', _⟩ hj ⟨rfl, hJ⟩
      simp only at hJ
      unfold exact_Least_l5
      simp only
      rw [ret_if]
      refine ⟨fun hlt2 => ?_, fun hge => ⟨_, rfl, ?_⟩⟩
      · have hjw : j < w := by omega
        obtain ⟨l, h1, h2⟩ := hJ.2 i hiw
        rw [if_neg (Nat.lt_irrefl i), if_pos rfl] at h2
        rw [at_some h1 rfl, obs, ret_bind]
        refine (inner2_ok hT hK hiw hjw (by omega)).mono fun y hy => ?_
        rw [ret_bind, ret_app]
        refine ⟨by rw [h2.1]; simp only [List.length_cons, List.length_nil]; omega, ?_⟩
        rw [set_some (by rw [hJ.1]; exact hiw) rfl, obs]
        refine ⟨_, rfl, hjw, by show wa .i64 (j : Int) 1 = _; rw [wa_i (by omega) (by omega)]; rfl, by rw [List.length_set]; exact hJ.1, fun r hrw => ?_⟩
        by_cases e : r = i
        · subst e
          exact ⟨_, by rw [List.getElem?_set_self]; rw [hJ.1]; exact hrw, by rw [if_neg (Nat.lt_irrefl r), if_pos rfl]; exact h2.snoc (z := (y.1, y.2)) hy⟩
        · obtain ⟨m, g1, g2⟩ := hJ.2 r hrw
          refine ⟨m, by rw [List.getElem?_set_ne (fun h => e h.symm)]; exact g1, ?_⟩
          rw [if_neg e] at g2 ⊢; exact g2
      · have e : j = w := by omega
        subst e
        refine ⟨hJ.1, fun r hrw => ?_⟩
        obtain ⟨m, g1, g2⟩ := hJ.2 r hrw
        refine ⟨m, g1, ?_⟩
        by_cases e1 : r < i
        · rw [if_pos e1] at g2; rw [if_pos (by omega)]; exact g2
        · by_cases e2 : r = i
          · subst e2
            rw [if_neg e1, if_pos rfl] at g2
            rw [if_pos (by omega)]; exact g2
          · rw [if_neg e1, if_neg e2] at g2
            rw [if_neg (by omega)]
            split <;> exact g2
    · have e : i = w := by omega
      subst e
      refine ⟨⟨hS.1, fun r hrw => ?_⟩, hr.congr fun c hc => by rw [if_pos hc]⟩
      obtain ⟨m, g1, g2⟩ := hS.2 r hrw
      rw [if_pos hrw] at g2
      exact ⟨m, g1, g2⟩
  · rintro ⟨S, rt⟩ ⟨hS, hr⟩
    simp only at hS hr ⊢
    rw [ret_bind]
    exact (ysolve_ok (K := 200) hM (hS.tr hG1 hG) (hr.lr hG2 hG) (by omega) hR hw hw0).mono fun r hr => ⟨_, rfl, hr⟩
end
end Km
/- The law ExactLeast. -/
namespace Km
open Sx Go M Vc Lm Dt
theorem awake08a : sparselaw08_awake = some true := by kernel_rfl
def mb2' (n : Nat) : Int := 2 * (((4 : Nat) : Int) * 40000) ^ (n + 2)
theorem mb2_ok' {n : Nat} (hn : n ≤ 4) : mb2' n < pw 4 ∧ 160000 ≤ mb2' n ∧ (160000 : Int) ^ n ≤ mb2' n := by
  have e : (((4 : Nat) : Int) * 40000) = 160000 := by decide
  have h1 := pow_mono (X := 160000) (by omega) (show n + 2 ≤ 6 by omega)
  have h2 := pow_mono (X := 160000) (by omega) (show 1 ≤ n + 2 by omega)
  have h6 := pow_mono (X := 160000) (by omega) (show n ≤ n + 2 by omega)
  have h4 : (2 : Int) * 160000 ^ 6 < pw 4 := by decide
  have h5 : (160000 : Int) ^ 1 = 160000 := by decide
  have h7 := Dt.pow_nn (X := 160000) (by omega) (n + 2)
  unfold mb2'
  rw [e]
  exact ⟨by omega, by omega, by omega⟩
theorem Lg.take {l : List Nb} {w : Nat} {f : Nat → Int} (h : Lg l w f) {c : Nat} (hc : c ≤ w) : Lg (l.take c) c f := ⟨by rw [List.length_take, h.1]; omega, fun r hr => by
  obtain ⟨z, h1, h2⟩ := h.2 r (by omega)
  exact ⟨z, by rw [List.getElem?_take, if_pos hr, h1], h2⟩⟩
theorem sign0 {z : Nb} {v : Int} (h : Bg v z.1 z.2) (hv : v = 0) : sparseref01_Sign z.1 z.2 = some 0 := by
  subst hv
  have lz := h.lenB (M := 0) (m := 1) ⟨by omega, by omega⟩ (by decide)
  have hsg := signR_bg h (by omega)
  rw [if_neg (by omega), if_neg (by omega)] at hsg
  exact hsg
theorem exactLeast_true (l r : List Int) (q cut : Int) : sparselaw08_ExactLeast l r q cut = some true := by
  refine Ret.eq ?_
  unfold sparselaw08_ExactLeast
  rw [ret_if]
  refine ⟨fun _ => by rw [awake08a, obs]; exact ⟨_, rfl, rfl⟩, fun h25 => ?_⟩
  have h25 : l.length ≤ 25 ∧ r.length ≤ 25 := by
    simp only [Bool.or_eq_true, decide_eq_true_eq, not_or] at h25; omega
  obtain ⟨p1, p2, p3⟩ := place_eq q (n := 4) (by omega) (by omega)
  rw [p1, obs]
  generalize q % 18446744073709551616 % 4 = m at *
  obtain ⟨n, hn⟩ : ∃ n : Nat, wa .i64 1 m = (n : Int) ∧ 1 ≤ n ∧ n ≤ 4 := by
    rw [wa_i (by omega) (by omega)]
    exact ⟨(1 + m).toNat, by omega, by omega, by omega⟩
  obtain ⟨hn, hn1, hn4⟩ := hn
  obtain ⟨c1, c2, c3⟩ := place_eq cut (n := (n : Int)) (by omega) (by omega)
  rw [hn, c1, obs]
  generalize cut % 18446744073709551616 % (n : Int) = m2 at *
  obtain ⟨c, hc⟩ : ∃ c : Nat, wa .i64 1 m2 = (c : Int) ∧ 1 ≤ c ∧ c ≤ n := by
    rw [wa_i (by omega) (by omega)]
    exact ⟨(1 + m2).toNat, by omega, by omega, by omega⟩
  obtain ⟨hc, hc1, hcn⟩ := hc
  rw [ret_bind]
  refine (square08_ok (l := l) (n := n) (by omega) (by omega)).mono fun T0 hT0 => ?_
  rw [ret_bind]
  refine (square08_ok (l := r) (n := n) (by omega) (by omega)).mono fun U hU => ?_
  obtain ⟨b, hb1, hb⟩ := hU.at (r := 0) (by omega) (i := 0) rfl
  rw [hb1, obs, ret_bind]
  refine (ret_loop (Post := fun S : List (List Nb) => Tg S n c (sqe l n)) n (fun i (s : List (List Nb) × Int) => s.2 = (i : Int) ∧ s.1.length = n ∧ ∀ r, r < n → ∃ m, s.1[r]? = some m ∧ Lg m (if r < i then c else n) (sqe l n r)) ⟨rfl, hT0.1, fun r hr => by
    obtain ⟨m, g1, g2⟩ := hT0.2 r hr
    exact ⟨m, g1, by rw [if_neg (by omega)]; exact g2⟩⟩ ?_ (by omega)).mono ?_
  · rintro i ⟨S, _⟩ hi ⟨rfl, hl, hI⟩
    simp only at hl hI
    unfold sparselaw08_ExactLeast_l2
    simp only
    rw [hn, ret_if]
    refine ⟨fun hlt => ?_, fun hge => ⟨_, rfl, hl, fun r hr => by
      obtain ⟨m, g1, g2⟩ := hI r hr
      rw [if_pos (by omega)] at g2
      exact ⟨m, g1, g2⟩⟩⟩
    have hin : i < n := by omega
    obtain ⟨m, g1, g2⟩ := hI i hin
    rw [if_neg (Nat.lt_irrefl i)] at g2
    rw [at_some g1 rfl, obs, ret_bind, ret_sli, hc]
    refine ⟨by omega, by omega, by rw [g2.1]; omega, ?_⟩
    rw [show ((0 : Int).toNat) = 0 from rfl, List.drop_zero, Int.toNat_natCast, set_some (by rw [hl]; exact hin) rfl, obs]
    refine ⟨_, rfl, hin, by show wa .i64 (i : Int) 1 = _; rw [wa_i (by omega) (by omega)]; rfl, by rw [List.length_set]; exact hl, fun r hr => ?_⟩
    by_cases e : r = i
    · subst e
      exact ⟨_, by rw [List.getElem?_set_self]; rw [hl]; exact hr, by rw [if_pos (by omega)]; exact g2.take hcn⟩
    · obtain ⟨m', k1, k2⟩ := hI r hr
      refine ⟨m', by rw [List.getElem?_set_ne (fun h => e h.symm)]; exact k1, ?_⟩
      by_cases e2 : r < i
      · rw [if_pos e2] at k2; rw [if_pos (by omega)]; exact k2
      · rw [if_neg e2] at k2; rw [if_neg (by omega)]; exact k2
  · intro T hT
    obtain ⟨hmb, h100⟩ := mb_ok hn4
    obtain ⟨hM4, h160, hpw⟩ := mb2_ok' (show c ≤ 4 by omega)
    have hM : mb2' c < pw 60 := by have := pw_mono (show 4 ≤ 60 by omega); omega
    have bA : ∀ i j, Bd 100 (sqe l n i j) := fun i j => sqe_bd l n i j
    have bg : ∀ j, Bd 100 (sqe r n 0 j) := fun j => sqe_bd r n 0 j
    have hG1 : ∀ i j, Bd 40000 (gram n (sqe l n) i j) := fun i j => (sm_bd (n := n) (M := 100 * 100) (by omega) fun x _ => (bA x i).mul (bA x j)).mono (by omega)
    have hG2 : ∀ i, Bd 40000 (sm n fun k => sqe l n k i * sqe r n 0 k) := fun i => (sm_bd (n := n) (M := 100 * 100) (by omega) fun x _ => (bA x i).mul (bg x)).mono (by omega)
    have okN : Okb c (c + 1) (aug (gram n (sqe l n)) c fun i => sm n fun k => sqe l n k i * sqe r n 0 k) (mb2' c) := okb_of (K := 4) (M := 40000) (by omega) (by omega) (by omega) fun i j _ _ => by
      unfold aug; split
      · exact hG2 i
      · exact hG1 i j
    have okA : Okb n c (sqe l n) (mb n) := sqe_okb (l := l) hn4 fun i j _ _ => bA i j
    have hp1 : (100 : Int) < pw 1 := by decide
    have hT1 := hT.tr (K := 1) (fun i j _ _ => bA i j) hp1
    have hb1' := hb.lr (K := 1) (fun j _ => bg j) hp1
    have hpG : (40000 : Int) < pw 200 := by have := pw_mono (show 1 ≤ 200 by omega); have : (40000 : Int) < pw 1 := (by decide); omega
    rw [ret_bind]
    refine (yleast_ok (G := 40000) hM hT1 hb1' (by omega) okN hpG (fun i j _ _ => hG1 i j) (fun i _ => hG2 i) (by omega) (by omega) hc1 (by omega)).mono ?_
    rintro ⟨xs, ds, dl, e⟩ hS
    obtain ⟨k, hk, A', col, sn, hB⟩ := yrank_ok hmb hT1 (by omega) okA (by omega) (by omega) (.inl (by omega))
    rw [hk, obs]
    have hkc := hB.gram
    simp only at hS ⊢
    rw [hc]
    rcases hS with ⟨rfl, h0, _⟩ | ⟨rfl, hne, x, hx, hds, bx, heq⟩
    · have hk2 : k ≠ c := fun h => (hkc.2 h) h0
      have hdk : decide ((k : Int) = (c : Int)) = false := by simp; omega
      rw [hdk, if_neg (by simp), if_neg (by decide), awake08a, obs]
      exact ⟨_, rfl, rfl⟩
    · have hk2 : k = c := hkc.1 hne
      have hdk : decide ((k : Int) = (c : Int)) = true := by simp; omega
      generalize hD : det c (gram n (sqe l n)) = D at *
      have bD : Bd (mb2' c) (if D < 0 then -D else D) := by
        have h1 : Bd (mb2' c) D := by
          rw [← hD]
          exact (det_bd (K := 4) (M := 40000) (by omega) (by omega) fun i j _ _ => hG1 i j).mono (by
            have e : (((4 : Nat) : Int) * 40000) = 160000 := by decide
            rw [e]; exact hpw)
        split
        · exact h1.neg
        · exact h1
      have hDp : 0 < (if D < 0 then -D else D) := by split <;> omega
      generalize (if D < 0 then -D else D) = E at *
      have lds := hds.lenB bD hM
      rw [hdk, if_neg (by simp), if_pos rfl, hx.1, if_pos rfl, sign_bg hds.1 (by omega), obs, hds.sv, obs]
      rw [if_neg (show ¬ E < 0 by omega), if_pos hDp]
      rw [if_neg (by decide), ret_bind]
      have hTm : ∀ i j, i < n → j < c → Bd (mb2' c) (sqe l n i j) := fun i j _ _ => (bA i j).mono (by omega)
      refine (times08_ok hM hT hx hTm bx (by omega) (by omega)).mono fun y hy => ?_
      rw [ret_bind]
      have hMM : 0 ≤ mb2' c := by omega
      have bS : ∀ i, i < n → Bd (400 * mb2' c) (sm c fun j => sqe l n i j * x j) := fun i _ => (sm_bd (n := c) (M := 100 * mb2' c) (by omega) fun j hj => (bA i j).mul (bx j hj)).mono (by
        have := Int.mul_le_mul_of_nonneg_right (show (c : Int) ≤ 4 by omega) (show 0 ≤ 100 * mb2' c by omega)
        omega)
      have h500 : 500 * mb2' c < pw 60 := by
        have h1 : pw 5 ≤ pw 60 := pw_mono (by omega)
        have h2 : pw 5 = B * pw 4 := rfl
        have e2 : B = 4294967296 := rfl
        rw [h2, e2] at h1; omega
      have bR : ∀ i, i < n → Bd (500 * mb2' c) ((sm c fun j => sqe l n i j * x j) - E * sqe r n 0 i) := fun i hi => ((bS i hi).sub (bD.mul (bg i))).mono (by omega)
      refine (ret_loop (Post := fun o : List Nb => Lg o n (fun i => (sm c fun j => sqe l n i j * x j) - E * sqe r n 0 i)) n (fun i (s : List Nb × Int) => s.2 = (i : Int) ∧ Lg s.1 n (fun t => if t < i then (sm c fun j => sqe l n t j * x j) - E * sqe r n 0 t else sm c fun j => sqe l n t j * x j)) ⟨rfl, hy.congr fun t _ => (if_neg (by omega)).symm⟩ ?_ (by omega)).mono ?_
      · rintro i ⟨o, _⟩ hi ⟨rfl, hI⟩
        simp only at hI
        unfold sparselaw08_ExactLeast_l8
        simp only
        rw [hn, ret_if]
        refine ⟨fun hlt => ?_, fun hge => ⟨_, rfl, hI.congr fun t ht => if_pos (by omega)⟩⟩
        have hin : i < n := by omega
        obtain ⟨u, g1, g2⟩ := hI.at hin (i := (i : Int)) rfl
        have g2 : Bg (sm c fun j => sqe l n i j * x j) u.1 u.2 := g2.cast (if_neg (Nat.lt_irrefl i))
        obtain ⟨v, g3, g4⟩ := hb.at hin (i := (i : Int)) rfl
        have lu := g2.lenB (bS i hin) (show 400 * mb2' c < pw 60 by omega)
        have lv' := g4.lenB (bg i) (show (100 : Int) < pw 1 from hp1)
        rw [g1, obs, g3, obs, ret_bind]
        refine (mul_bg (s := ds) (t := v.1) hds.1 g4.1 (by omega) (by omega)).mono fun a ha => ?_
        rw [hds.sv, g4.sv] at ha
        have la := ha.lenB (bD.mul (bg i)) (show mb2' c * 100 < pw 60 by omega)
        rw [ret_bind]
        refine (sub_bg (s := u.1) (t := a.1) g2.1 ha.1 (by omega) (by omega)).mono fun t ht => ?_
        rw [g2.sv, ha.sv] at ht
        rw [set_some (by rw [hI.1]; exact hin) rfl, obs]
        refine ⟨_, rfl, hin, by show wa .i64 (i : Int) 1 = _; rw [wa_i (by omega) (by omega)]; rfl, (hI.set hin (z := (t.1, t.2)) ht).congr fun s hs => ?_⟩
        by_cases e : s = i
        · subst e; rw [if_pos rfl, if_pos (by omega)]
        · rw [if_neg e]
          by_cases hsi : s < i
          · rw [if_pos hsi, if_pos (by omega)]
          · rw [if_neg hsi, if_neg (by omega)]
      · intro res hres
        rw [ret_bind]
        refine (transp_ok hT (by omega) (by omega) (.inl (by omega))).mono fun t ht => ?_
        rw [ret_bind]
        refine (times08_ok h500 ht hres (fun i j _ _ => (bA j i).mono (by omega)) bR (by omega) (by omega)).mono fun z hz => ?_
        have hz0 : ∀ j, j < c → sm n (fun i => tp (sqe l n) j i * ((sm c fun s => sqe l n i s * x s) - E * sqe r n 0 i)) = 0 := by
          intro j hj
          have h1 := heq j hj
          rw [gram_mul] at h1
          have e1 : sm n (fun i => tp (sqe l n) j i * ((sm c fun s => sqe l n i s * x s) - E * sqe r n 0 i)) = sm n (fun i => 1 * (sqe l n i j * sm c fun s => sqe l n i s * x s) + (-E) * (sqe l n i j * sqe r n 0 i)) := sm_congr fun i _ => by
            show sqe l n i j * _ = _
            grind
          rw [e1, sm_lin, h1]
          have : ∀ v : Int, 1 * (E * v) + -E * v = 0 := fun v => by grind
          exact this _
        rw [ret_bind]
        refine (ret_loop (Post := fun o : Unit ⊕ Unit => o = .inl ()) c (fun j (s : Int) => s = (j : Int)) rfl ?_ (by omega)).mono ?_
        · rintro j _ hj rfl
          unfold sparselaw08_ExactLeast_l9
          rw [hc, ret_if]
          refine ⟨fun hlt => ?_, fun _ => ⟨_, rfl, rfl⟩⟩
          have hjc : j < c := by omega
          obtain ⟨u, g1, g2⟩ := hz.at hjc (i := (j : Int)) rfl
          rw [g1, obs, sign0 g2 (hz0 j hjc), obs, if_pos rfl]
          exact ⟨_, rfl, hjc, by show wa .i64 (j : Int) 1 = _; rw [wa_i (by omega) (by omega)]; rfl⟩
        · rintro _ rfl
          simp only
          rw [ret_bind]
          refine (ret_loop (Post := fun o : Unit ⊕ Unit => o = .inl ()) n (fun i (s : Int) => s = (i : Int)) rfl ?_ (by omega)).mono ?_
          · rintro i _ hi rfl
            unfold sparselaw08_ExactLeast_l12
            rw [hn, hc, ret_if]
            refine ⟨fun hlt => ?_, fun _ => ⟨_, rfl, rfl⟩⟩
            have hlt : i < n ∧ c = n := by
              simp only [Bool.and_eq_true, decide_eq_true_eq] at hlt; omega
            obtain ⟨hin, rfl⟩ := hlt
            have hdet : det c (sqe l c) ≠ 0 := by
              intro h0
              obtain ⟨v, ⟨j, hj, hvj⟩, hv⟩ := det_null c (sqe l c) h0
              exact hvj ((gram_regular (sqe l c)).1 (by rw [hD]; exact hne) v hv j hj)
            have h0 := row_zero hdet (w := fun i => (sm c fun s => sqe l c i s * x s) - E * sqe r c 0 i) (fun j hj => by
              rw [← hz0 j hj]
              exact sm_congr fun i _ => by show _ * sqe l c i j = sqe l c i j * _; rw [Int.mul_comm]) i hin
            obtain ⟨u, g1, g2⟩ := hres.at hin (i := (i : Int)) rfl
            rw [g1, obs, sign0 g2 h0, obs, if_pos rfl]
            exact ⟨_, rfl, hin, by show wa .i64 (i : Int) 1 = _; rw [wa_i (by omega) (by omega)]; rfl⟩
          · rintro _ rfl
            simp only
            rw [awake08a, obs]
            exact ⟨_, rfl, rfl⟩
theorem exactLeast_t (l r : List Int) (q cut : Int) (_ : okL (Wf .i64) l) (_ : okL (Wf .i64) r) (_ : Wf .i64 q) (_ : Wf .i64 cut) : sparselaw08_ExactLeast l r q cut = some true := exactLeast_true l r q cut
end Km
