/- Lists of limbs of 32 bits: their values, and the machine's steps upon them. -/
import Derived.Test.YtnfamnfdndaekaaGreatDoorVcA
import Derived.Test.YtnfamnfdndaekaaGreatDoorM5
import Derived.KernelRfl
set_option linter.unusedVariables false
set_option linter.unusedSimpArgs false
set_option maxHeartbeats 4000000
set_option maxRecDepth 10000
namespace Lm
open Sx Go Vc

def B : Int := 4294967296
theorem B_eq : B = 4294967296 := rfl
theorem wc_u32 (x : Int) : wc .u32 x = x % B := by unfold wc B; rw [IntKind.wrap_u32]
theorem wc_u64 (x : Int) : wc .u64 x = x % 18446744073709551616 := by unfold wc; rw [IntKind.wrap_u64]
theorem wc_u64_in {x : Int} (h : 0 ≤ x ∧ x < 18446744073709551616) : wc .u64 x = x := by rw [wc_u64]; omega
theorem wc_u32_in {x : Int} (h : 0 ≤ x ∧ x < B) : wc .u32 x = x := by rw [wc_u32]; unfold B at *; omega
theorem wc_i64_in {x : Int} (h : -9223372036854775808 ≤ x ∧ x ≤ 9223372036854775807) : wc .i64 x = x := IntWalk.i64_in _ h
theorem wa_u64 {x y : Int} (h : 0 ≤ x + y ∧ x + y < 18446744073709551616) : wa .u64 x y = x + y := IntWalk.u64_in _ ⟨h.1, by omega⟩
theorem wm_u64 {x y : Int} (h : 0 ≤ x * y ∧ x * y < 18446744073709551616) : wm .u64 x y = x * y := IntWalk.u64_in _ ⟨h.1, by omega⟩
theorem ws_u64 (x y : Int) : ws .u64 x y = (x - y) % 18446744073709551616 := by unfold ws; rw [IntKind.wrap_u64]
theorem wa_u32 (x y : Int) : wa .u32 x y = (x + y) % B := by unfold wa B; rw [IntKind.wrap_u32]
theorem bv64 {x : Int} (h : 0 ≤ x ∧ x < 18446744073709551616) : (BitVec.ofInt 64 x).toNat = x.toNat := by
  rw [BitVec.toNat_ofInt]
  omega
theorem wand_low {x : Int} (h : 0 ≤ x ∧ x < 18446744073709551616) : wand .u64 x 4294967295 = x % B := by
  unfold wand
  have e : (BitVec.ofInt 64 x &&& BitVec.ofInt 64 4294967295).toNat = x.toNat % 4294967296 := by
    rw [BitVec.toNat_and, bv64 h, bv64 (by omega)]
    show x.toNat &&& 4294967295 = _
    exact Nat.and_two_pow_sub_one_eq_mod x.toNat 32
  show IntKind.u64.wrap ((BitVec.ofInt 64 x &&& BitVec.ofInt 64 4294967295).toNat : Int) = _
  rw [e, IntWalk.u64_in _ (by omega)]
  unfold B
  omega
theorem wand_one {x : Int} (h : 0 ≤ x ∧ x < 18446744073709551616) : wand .u64 x 1 = x % 2 := by
  unfold wand
  have e : (BitVec.ofInt 64 x &&& BitVec.ofInt 64 1).toNat = x.toNat % 2 := by
    rw [BitVec.toNat_and, bv64 h, bv64 (by omega)]
    exact Nat.and_two_pow_sub_one_eq_mod x.toNat 1
  show IntKind.u64.wrap ((BitVec.ofInt 64 x &&& BitVec.ofInt 64 1).toNat : Int) = _
  rw [e, IntWalk.u64_in _ (by omega)]
  omega
theorem wsrc32 {x : Int} (h : 0 ≤ x) : wsrc .u64 x 32 = x / B := by
  unfold wsrc B
  show x.fdiv (2 ^ 32) = _
  rw [Int.fdiv_eq_ediv_of_nonneg _ (by omega)]
  rfl
theorem wsrc63 {x : Int} (h : 0 ≤ x) : wsrc .u64 x 63 = x / 9223372036854775808 := by
  unfold wsrc
  show x.fdiv (2 ^ 63) = _
  rw [Int.fdiv_eq_ediv_of_nonneg _ (by omega)]
  rfl
theorem wslc32 {x : Int} (h : 0 ≤ x ∧ x < B) : wslc .u64 x 32 = x * B := by
  unfold wslc B at *
  show IntKind.u64.wrap (x * 2 ^ 32) = _
  rw [IntWalk.u64_in _ (by omega)]
  omega
theorem wor_hi {x y : Int} (hx : 0 ≤ x ∧ x < B) (hy : 0 ≤ y ∧ y < B) : wor .u64 (x * B) y = x * B + y := by
  unfold B at *
  unfold wor
  have e : (BitVec.ofInt 64 (x * 4294967296) ||| BitVec.ofInt 64 y).toNat = x.toNat * 4294967296 + y.toNat := by
    rw [BitVec.toNat_or, bv64 (by omega), bv64 (by omega)]
    have e1 : (x * 4294967296).toNat = 2 ^ 32 * x.toNat := by omega
    rw [e1, ← Nat.two_pow_add_eq_or_of_lt (by omega)]
    omega
  show IntKind.u64.wrap ((BitVec.ofInt 64 (x * 4294967296) ||| BitVec.ofInt 64 y).toNat : Int) = _
  rw [e, IntWalk.u64_in _ (by omega)]
  omega

/-- limbs -/
def LW (l : List Int) : Prop := ∀ x, x ∈ l → 0 ≤ x ∧ x < B
def lv : List Int → Int
  | [] => 0
  | x :: l => x + B * lv l
def pw : Nat → Int
  | 0 => 1
  | n + 1 => B * pw n
theorem pw_pos : ∀ n, 0 < pw n
  | 0 => by simp [pw]
  | n + 1 => by have := pw_pos n; unfold pw B; omega
theorem pw_add (m : Nat) : ∀ n, pw (m + n) = pw m * pw n
  | 0 => by simp [pw]
  | n + 1 => by
    have := pw_add m n
    simp only [pw, Nat.add_eq]
    rw [this]
    grind
theorem lv_nn : ∀ {l : List Int}, LW l → 0 ≤ lv l
  | [], _ => by simp [lv]
  | x :: l, h => by
    have h1 := lv_nn (l := l) (fun y hy => h y (by simp [hy]))
    have h2 := h x (by simp)
    unfold lv B
    omega
theorem lv_lt : ∀ {l : List Int}, LW l → lv l < pw l.length
  | [], _ => by simp [lv, pw]
  | x :: l, h => by
    have h1 := lv_lt (l := l) (fun y hy => h y (by simp [hy]))
    have h2 := h x (by simp)
    simp only [lv, List.length_cons, pw]
    unfold B at *
    omega
theorem lv_app : ∀ (a b : List Int), lv (a ++ b) = lv a + pw a.length * lv b
  | [], b => by simp [lv, pw]
  | x :: a, b => by
    have := lv_app a b
    simp only [List.cons_append, lv, List.length_cons, pw, this]
    grind
theorem lv_zeros : ∀ n, lv (List.replicate n 0) = 0
  | 0 => rfl
  | n + 1 => by simp [List.replicate_succ, lv, lv_zeros n]
theorem LW.tail {x : Int} {l : List Int} (h : LW (x :: l)) : LW l := fun y hy => h y (by simp [hy])
theorem LW.app {a b : List Int} : LW (a ++ b) ↔ LW a ∧ LW b := by
  unfold LW
  constructor
  · intro h; exact ⟨fun x hx => h x (by simp [hx]), fun x hx => h x (by simp [hx])⟩
  · rintro ⟨h1, h2⟩ x hx
    rcases List.mem_append.1 hx with hx | hx
    · exact h1 x hx
    · exact h2 x hx
theorem LW.one {x : Int} : LW [x] ↔ 0 ≤ x ∧ x < B := by simp [LW]
/-- the last limb is not zero -/
def Tm (l : List Int) : Prop := ∀ x, l.getLast? = some x → x ≠ 0
theorem tm_nil : Tm [] := by simp [Tm]
theorem tm_snoc {l : List Int} {x : Int} (h : x ≠ 0) : Tm (l ++ [x]) := by simp [Tm, h]
theorem tm_lower : ∀ {l : List Int}, LW l → Tm l → l ≠ [] → pw (l.length - 1) ≤ lv l := by
  intro l h ht hne
  obtain ⟨m, x, rfl⟩ : ∃ m x, l = m ++ [x] := ⟨l.dropLast, l.getLast hne, (List.dropLast_concat_getLast hne).symm⟩
  have hx := ht x (by simp)
  obtain ⟨h1, h2⟩ := LW.app.1 h
  have h3 := lv_nn h1
  have h4 := LW.one.1 h2
  rw [lv_app]
  simp only [List.length_append, List.length_singleton, Nat.add_sub_cancel, lv]
  have h5 := pw_pos m.length
  have : pw m.length * 1 ≤ pw m.length * x := Int.mul_le_mul_of_nonneg_left (by omega) (by omega)
  simp at this ⊢
  omega
theorem pw_mono {m n : Nat} (h : m ≤ n) : pw m ≤ pw n := by
  obtain ⟨k, rfl⟩ : ∃ k, n = m + k := ⟨n - m, by omega⟩
  rw [pw_add]
  have h1 := pw_pos m
  have h2 := pw_pos k
  have : pw m * 1 ≤ pw m * pw k := Int.mul_le_mul_of_nonneg_left (by omega) (by omega)
  omega
theorem tm_len {a b : List Int} (ha : LW a) (hb : LW b) (ta : Tm a) (tb : Tm b) (h : a.length < b.length) : lv a < lv b := by
  have h1 := lv_lt ha
  have h2 := tm_lower hb tb (by rintro rfl; simp at h)
  have h3 := pw_mono (m := a.length) (n := b.length - 1) (by omega)
  omega
theorem lv_inj : ∀ {a b : List Int}, LW a → LW b → a.length = b.length → lv a = lv b → a = b
  | [], [], _, _, _, _ => rfl
  | [], _ :: _, _, _, h, _ => by simp at h
  | _ :: _, [], _, _, h, _ => by simp at h
  | x :: a, y :: b, ha, hb, hl, he => by
    have hx := ha x (by simp)
    have hy := hb y (by simp)
    simp only [lv] at he
    unfold B at *
    have e1 : x = y := by omega
    subst e1
    have e2 : lv a = lv b := by omega
    rw [lv_inj ha.tail hb.tail (by simpa using hl) e2]
/-- trimmed lists with the same value are the same -/
theorem tm_inj {a b : List Int} (ha : LW a) (hb : LW b) (ta : Tm a) (tb : Tm b) (he : lv a = lv b) : a = b := by
  have h1 : ¬ a.length < b.length := fun h => by have := tm_len ha hb ta tb h; omega
  have h2 : ¬ b.length < a.length := fun h => by have := tm_len hb ha tb ta h; omega
  exact lv_inj ha hb (by omega) he
theorem lv_zero {a : List Int} (ha : LW a) (ta : Tm a) : lv a = 0 ↔ a = [] := by
  constructor
  · intro h
    exact tm_inj ha (by intro x hx; simp at hx) ta tm_nil h
  · rintro rfl; rfl
/-- the list without its zeros at the end -/
def trimL : List Int → List Int
  | [] => []
  | x :: l => match trimL l with
    | [] => if x = 0 then [] else [x]
    | m => x :: m
theorem trimL_lv : ∀ l : List Int, lv (trimL l) = lv l
  | [] => rfl
  | x :: l => by
    have ih := trimL_lv l
    unfold trimL
    cases h : trimL l with
    | nil =>
      rw [h] at ih
      simp only [lv] at ih
      simp only
      by_cases hx : x = 0
      · rw [if_pos hx]; simp only [lv, ← ih, hx]; rfl
      · rw [if_neg hx]; simp only [lv, ← ih]
    | cons y m =>
      rw [h] at ih
      simp only [lv] at ih ⊢
      rw [ih]
theorem trimL_lw : ∀ {l : List Int}, LW l → LW (trimL l)
  | [], h => h
  | x :: l, h => by
    have ih := trimL_lw h.tail
    unfold trimL
    cases e : trimL l with
    | nil =>
      simp only
      split
      · intro y hy; simp at hy
      · exact LW.one.2 (h x (by simp))
    | cons y m =>
      rw [e] at ih
      simp only
      intro z hz
      rcases List.mem_cons.1 hz with rfl | hz
      · exact h z (by simp)
      · exact ih z hz
theorem trimL_tm : ∀ l : List Int, Tm (trimL l)
  | [] => tm_nil
  | x :: l => by
    have ih := trimL_tm l
    unfold trimL
    cases e : trimL l with
    | nil =>
      simp only
      split
      · exact tm_nil
      · rename_i h; intro y hy; simp at hy; omega
    | cons y m =>
      rw [e] at ih
      simp only
      intro z hz
      refine ih z ?_
      rw [← hz, List.getLast?_cons_cons]
theorem trimL_of {l : List Int} (hl : LW l) (ht : Tm l) : trimL l = l := tm_inj (trimL_lw hl) hl (trimL_tm l) ht (trimL_lv l)
/-- digits of a number -/
theorem tm_ext {a : List Int} {b : List Int} (ha : LW a) (hb : LW b) (ta : Tm a) (h : lv a = lv b) : a = trimL b :=
  tm_inj ha (trimL_lw hb) ta (trimL_tm b) (by rw [trimL_lv, h])
end Lm
/- The program's limbs: trimming, numbers from machine integers, short division, comparison. -/
namespace Km
open Sx Go M Vc Lm
theorem lv_snoc (l : List Int) (x : Int) : lv (l ++ [x]) = lv l + pw l.length * x := by
  rw [lv_app]; simp [lv]
theorem LW.take {l : List Int} (h : LW l) (k : Nat) : LW (l.take k) := fun x hx => h x (List.mem_of_mem_take hx)
theorem LW.get {l : List Int} (h : LW l) {k : Nat} {x : Int} (hx : l[k]? = some x) : 0 ≤ x ∧ x < B := h x (mem_get hx)
theorem trim_ok {l : List Int} (hl : LW l) (hn : l.length ≤ 1000000) : integer_trim l = some (trimL l) := by
  refine Ret.eq ?_
  unfold integer_trim
  rw [ret_bind]
  refine (ret_loop (Post := fun i => ∃ k : Nat, i = (k : Int) ∧ k ≤ l.length ∧ lv (l.take k) = lv l ∧ Tm (l.take k)) l.length (fun m (i : Int) => i = ((l.length - m : Nat) : Int) ∧ m ≤ l.length ∧ lv (l.take (l.length - m)) = lv l) ⟨by rw [Nat.sub_zero], by omega, by rw [Nat.sub_zero, List.take_length]⟩ ?_ (by omega)).mono ?_
  · rintro m _ hm ⟨rfl, h1, h2⟩
    unfold integer_trim_l3
    rw [ret_bind, ret_if]
    refine ⟨fun hlt => ?_, fun hge => ?_⟩
    · have e1 : ws .i64 ((l.length - m : Nat) : Int) 1 = ((l.length - (m + 1) : Nat) : Int) := by rw [ws_i (by omega) (by omega)]; omega
      rw [e1, ret_bind, ret_get]
      refine ⟨by omega, by omega, fun x hx => ?_⟩
      rw [Int.toNat_natCast] at hx
      have ht : l.take (l.length - m) = l.take (l.length - (m + 1)) ++ [x] := by
        rw [show l.length - m = l.length - (m + 1) + 1 by omega]; exact tks hx
      rw [ret_some, ret_if]
      refine ⟨fun hz => ?_, fun hz => ?_⟩
      · have hz : x = 0 := by simpa using hz
        refine ⟨_, rfl, by omega, rfl, by omega, ?_⟩
        rw [← h2, ht, lv_snoc, hz]; simp
      · have hz : x ≠ 0 := by simpa using hz
        exact ⟨_, rfl, l.length - m, rfl, by omega, h2, by rw [ht]; exact tm_snoc hz⟩
    · rw [ret_some, if_neg (by simp)]
      have e : l.length - m = 0 := by omega
      exact ⟨_, rfl, 0, by rw [e], by omega, by rw [← h2, e], by simp [Tm]⟩
  · rintro _ ⟨k, rfl, h1, h2, h3⟩
    rw [ret_bind, ret_sli]
    refine ⟨by omega, by omega, by omega, _, rfl, ?_⟩
    rw [Int.toNat_natCast, show (0 : Int).toNat = 0 from rfl, List.drop_zero]
    exact tm_ext (LW.take hl k) hl h3 h2
theorem big_ok {l : List Int} (s : Bool) (hl : LW l) (hn : l.length ≤ 1000000) : integer_big s l = some (if trimL l = [] then (false, []) else (s, trimL l)) := by
  unfold integer_big
  rw [trim_ok hl hn, obs]
  by_cases h : trimL l = []
  · rw [if_pos (by rw [h]; rfl), if_pos h]
  · rw [if_neg (by simpa using h), if_neg h]
/-- a number from 1 to B - 1 is one limb -/
theorem from_ok {p : Int} (hp : 0 < p) (hB : p < B) : integer_FromInt p = some (false, [p]) := by
  unfold B at hB
  unfold integer_FromInt integer_FromInt_j1
  rw [if_neg (by omega), wc_u64_in ⟨by omega, by omega⟩, wand_low ⟨by omega, by omega⟩, wsrc32 (by omega)]
  have e1 : p % B = p := Int.emod_eq_of_lt (by omega) (by unfold B; omega)
  have e2 : p / B = 0 := Int.ediv_eq_zero_of_lt (by omega) (by unfold B; omega)
  rw [e1, e2, wc_u32_in ⟨by omega, by unfold B; omega⟩, wc_u32_in ⟨by omega, by unfold B; omega⟩]
  have hl : LW [p, 0] := by
    intro x hx
    simp at hx
    unfold B
    omega
  have ht : trimL [p, 0] = [p] := by
    simp [trimL]
    omega
  rw [big_ok _ hl (by simp), ht, obs, if_neg (by simp)]
  simp
  omega
/-- short division -/
theorem short_ok {a : List Int} {d : Int} (ha : LW a) (hn : a.length ≤ 1000) (hd : 0 < d) (hB : d < B) : ∃ q, integer_short a d = some (q, lv a % d) ∧ LW q ∧ Tm q ∧ lv q = lv a / d := by
  have key : Ret (integer_short a d) (fun r => LW r.1 ∧ Tm r.1 ∧ lv r.1 = lv a / d ∧ r.2 = lv a % d) := by
    unfold B at hB
    unfold integer_short
    rw [ret_bind, ret_mkL]
    refine ⟨by omega, by omega, ?_⟩
    rw [Int.toNat_natCast, ret_bind]
    have hcd : wc .u64 d = d := wc_u64_in ⟨by omega, by omega⟩
    refine (ret_loop (Post := fun s : List Int × Int => LW s.1 ∧ s.1.length = a.length ∧ (0 ≤ s.2 ∧ s.2 < d) ∧ lv a = lv s.1 * d + s.2) a.length (fun m (s : List Int × Int × Int) => s.2.2 = (a.length : Int) - 1 - m ∧ m ≤ a.length ∧ LW s.1 ∧ s.1.length = a.length ∧ (0 ≤ s.2.1 ∧ s.2.1 < d) ∧ lv (a.drop (a.length - m)) = lv (s.1.drop (a.length - m)) * d + s.2.1) ⟨by show ws .i64 (a.length : Int) 1 = _; rw [ws_i (by omega) (by omega)]; simp, by omega, fun x hx => by rw [List.mem_replicate] at hx; rw [hx.2]; unfold B; omega, List.length_replicate .., ⟨by show (0 : Int) ≤ 0; omega, hd⟩, by rw [Nat.sub_zero, List.drop_length, List.drop_of_length_le (by simp)]; simp [lv]⟩ ?_ (by omega)).mono ?_
    · rintro m ⟨q, r, _⟩ hm ⟨h1, h2, h3, h4, h5, h6⟩
      simp only at h1 h3 h4 h5 h6
      subst h1
      unfold integer_short_l1
      simp only
      rw [ret_if]
      refine ⟨fun hge => ?_, fun hlt => ⟨_, rfl, h3, h4, h5, ?_⟩⟩
      · obtain ⟨i, hi⟩ : ∃ i : Nat, a.length = i + (m + 1) := ⟨a.length - (m + 1), by omega⟩
        have ei : (a.length : Int) - 1 - (m : Int) = (i : Int) := by omega
        rw [ei, ret_bind, ret_get]
        refine ⟨by omega, by omega, fun x hx => ?_⟩
        rw [Int.toNat_natCast] at hx
        have hxB := LW.get ha hx
        have hr2 : 0 ≤ r ∧ r < B := ⟨h5.1, by unfold B; omega⟩
        have ht : wor .u64 (wslc .u64 r 32) (wc .u64 x) = r * B + x := by
          rw [wslc32 hr2, wc_u64_in ⟨hxB.1, by unfold B at hxB; omega⟩, wor_hi hr2 hxB]
        rw [ht, hcd]
        have hr3 : r + 1 ≤ d := by omega
        have hmul : (r + 1) * B ≤ d * B := Int.mul_le_mul_of_nonneg_right hr3 (by unfold B; omega)
        have hrB : 0 ≤ r * B := Int.mul_nonneg h5.1 (by unfold B; omega)
        rw [Int.add_mul, Int.one_mul] at hmul
        have htn : 0 ≤ r * B + x := by omega
        have hq0 : 0 ≤ (r * B + x) / d := Int.ediv_nonneg htn (by omega)
        have hqB : (r * B + x) / d < B := Int.ediv_lt_of_lt_mul hd (by rw [Int.mul_comm B d]; omega)
        have hrem : 0 ≤ (r * B + x) % d ∧ (r * B + x) % d < d := ⟨Int.emod_nonneg _ (by omega), Int.emod_lt_of_pos _ hd⟩
        have hwq : wq .u64 (r * B + x) d = some ((r * B + x) / d) := by
          unfold wq
          rw [if_neg (by omega), Int.tdiv_eq_ediv_of_nonneg htn, IntWalk.u64_in _ ⟨hq0, by have e : B = 4294967296 := rfl; omega⟩]
        have hwr : wr (r * B + x) d = some ((r * B + x) % d) := by
          unfold wr
          rw [if_neg (by omega), Int.tmod_eq_emod_of_nonneg htn]
        rw [hwq, obs, ret_bind, ret_set]
        refine ⟨by omega, by omega, ?_⟩
        rw [hwr, obs, Int.toNat_natCast, wc_u32_in ⟨hq0, hqB⟩]
        refine ⟨_, rfl, by omega, ?_⟩
        simp only
        refine ⟨by rw [ws_i (by omega) (by omega)]; omega, by omega, ?_, by rw [List.length_set]; exact h4, hrem, ?_⟩
        · intro y hy
          rcases List.mem_or_eq_of_mem_set hy with hy | rfl
          · exact h3 y hy
          · exact ⟨hq0, hqB⟩
        · have e1 : a.length - (m + 1) = i := by omega
          have e2 : a.length - m = i + 1 := by omega
          rw [e2] at h6
          rw [e1]
          have ea : a.drop i = x :: a.drop (i + 1) := by
            obtain ⟨hlt, he⟩ := List.getElem?_eq_some_iff.1 hx
            rw [← he]; exact List.drop_eq_getElem_cons hlt
          have eq : (q.set i ((r * B + x) / d)).drop i = ((r * B + x) / d) :: q.drop (i + 1) := by
            have hlt : i < (q.set i ((r * B + x) / d)).length := by rw [List.length_set]; omega
            rw [List.drop_eq_getElem_cons hlt, List.getElem_set_self, List.drop_set_of_lt (by omega)]
          rw [ea, eq]
          simp only [lv]
          rw [h6]
          have h7 := Int.mul_ediv_add_emod (r * B + x) d
          have e9 : ((r * B + x) / d + B * lv (q.drop (i + 1))) * d = d * ((r * B + x) / d) + B * (lv (q.drop (i + 1)) * d) := by grind
          rw [e9]
          have e10 : B * (lv (q.drop (i + 1)) * d + r) = B * (lv (q.drop (i + 1)) * d) + r * B := by grind
          rw [e10]
          omega
      · have e : a.length - m = 0 := by omega
        rw [e, List.drop_zero, List.drop_zero] at h6
        exact h6
    · rintro ⟨q, r⟩ ⟨h1, h2, h3, h4⟩
      simp only at h1 h2 h3 h4 ⊢
      rw [trim_ok h1 (by omega), obs]
      refine ⟨_, rfl, trimL_lw h1, trimL_tm q, ?_, ?_⟩
      · show lv (trimL q) = _
        rw [trimL_lv, h4, Int.add_comm, Int.add_mul_ediv_right _ _ (by omega), Int.ediv_eq_zero_of_lt h3.1 h3.2, Int.zero_add]
      · show wc .u32 r = _
        rw [wc_u32_in ⟨h3.1, by unfold B; omega⟩, h4, Int.add_comm, Int.add_mul_emod_self_right, Int.emod_eq_of_lt h3.1 h3.2]
  obtain ⟨⟨q, r⟩, h0, h1, h2, h3, h4⟩ := key
  simp only at h1 h2 h3 h4
  exact ⟨q, by rw [h0, h4], h1, h2, h3⟩
end Km
/- The program's limbs: comparison, sum, difference; remainders by one limb. -/
namespace Km
open Sx Go M Vc Lm
theorem cmpInt_ok (x y : Int) : cmp_Compare_int x y = some (if x < y then -1 else if y < x then 1 else 0) := by
  unfold cmp_Compare_int cmp_isNaN_int
  simp only [decide_true, Bool.not_true, obs, if_false, Bool.false_eq_true]
  split
  · rfl
  · split <;> rfl
theorem cmpU_ok (x y : Int) : cmp_Compare_uint32 x y = some (if x < y then -1 else if y < x then 1 else 0) := by
  unfold cmp_Compare_uint32 cmp_isNaN_uint32
  simp only [decide_true, Bool.not_true, obs, if_false, Bool.false_eq_true]
  split
  · rfl
  · split <;> rfl
theorem split_at {a : List Int} {i : Nat} {x : Int} (hx : a[i]? = some x) : lv a = lv (a.take i) + pw i * (x + B * lv (a.drop (i + 1))) := by
  obtain ⟨hlt, he⟩ := List.getElem?_eq_some_iff.1 hx
  have e : a = a.take i ++ (x :: a.drop (i + 1)) := by
    rw [← he, ← List.drop_eq_getElem_cons hlt, List.take_append_drop]
  have e2 : lv a = lv (a.take i ++ (x :: a.drop (i + 1))) := congrArg lv e
  rw [e2, lv_app]
  simp only [lv, List.length_take]
  rw [Nat.min_eq_left (by omega)]
theorem take_lt {a : List Int} (ha : LW a) {i : Nat} (hi : i ≤ a.length) : 0 ≤ lv (a.take i) ∧ lv (a.take i) < pw i := by
  have h1 := lv_lt (LW.take ha i)
  rw [List.length_take, Nat.min_eq_left hi] at h1
  exact ⟨lv_nn (LW.take ha i), h1⟩
theorem lex_lt {a b : List Int} (ha : LW a) (hb : LW b) {i : Nat} {x y : Int} (hx : a[i]? = some x) (hy : b[i]? = some y) (he : a.drop (i + 1) = b.drop (i + 1)) (h : x < y) : lv a < lv b := by
  have h1 := (List.getElem?_eq_some_iff.1 hx).1
  have h2 := (List.getElem?_eq_some_iff.1 hy).1
  rw [split_at hx, split_at hy, he]
  have t1 := take_lt ha (i := i) (by omega)
  have t2 := take_lt hb (i := i) (by omega)
  have hp := pw_pos i
  have e1 : pw i * (y + B * lv (b.drop (i + 1))) = pw i * (x + B * lv (b.drop (i + 1))) + pw i * (y - x) := by grind
  have e2 : pw i * 1 ≤ pw i * (y - x) := Int.mul_le_mul_of_nonneg_left (by omega) (by omega)
  rw [e1]
  omega
theorem compare_ok {a b : List Int} (ha : LW a) (hb : LW b) (ta : Tm a) (tb : Tm b) (hn : a.length ≤ 1000) (hm : b.length ≤ 1000) : integer_compare a b = some (if lv a < lv b then -1 else if lv b < lv a then 1 else 0) := by
  refine Ret.eq ?_
  unfold integer_compare
  rw [ret_if]
  refine ⟨fun hl => ?_, fun hl => ?_⟩
  · have hl : a.length = b.length := by omega
    rw [ret_bind]
    refine (ret_loop (Post := fun o => (o = .inl () ∧ a = b) ∨ ∃ c, o = .inr c ∧ c = (if lv a < lv b then -1 else if lv b < lv a then 1 else 0)) a.length (fun m (i : Int) => i = (a.length : Int) - 1 - m ∧ m ≤ a.length ∧ a.drop (a.length - m) = b.drop (a.length - m)) ⟨by rw [ws_i (by omega) (by omega)]; omega, by omega, by rw [Nat.sub_zero, List.drop_length, List.drop_of_length_le (by omega)]⟩ ?_ (by omega)).mono ?_
    · rintro m i hm' ⟨rfl, h1, h2⟩
      unfold integer_compare_l1
      rw [ret_if]
      refine ⟨fun hge => ?_, fun hlt => ⟨_, rfl, .inl ⟨rfl, by have e : a.length - m = 0 := (by omega); rwa [e, List.drop_zero, List.drop_zero] at h2⟩⟩⟩
      obtain ⟨j, hj⟩ : ∃ j : Nat, a.length = j + (m + 1) := ⟨a.length - (m + 1), by omega⟩
      have ej : (a.length : Int) - 1 - (m : Int) = (j : Int) := by omega
      have e2 : a.length - m = j + 1 := by omega
      rw [e2] at h2
      rw [ej, ret_bind, ret_get]
      refine ⟨by omega, by omega, fun x hx => ?_⟩
      rw [ret_bind, ret_get]
      refine ⟨by omega, by omega, fun y hy => ?_⟩
      rw [Int.toNat_natCast] at hx hy
      rw [ret_if]
      refine ⟨fun he => ⟨_, rfl, by omega, by rw [ws_i (by omega) (by omega)]; omega, by omega, ?_⟩, fun hne => ?_⟩
      · subst he
        obtain ⟨k1, k2⟩ := List.getElem?_eq_some_iff.1 hx
        obtain ⟨k3, k4⟩ := List.getElem?_eq_some_iff.1 hy
        rw [show a.length - (m + 1) = j by omega, List.drop_eq_getElem_cons k1, List.drop_eq_getElem_cons k3, k2, k4, h2]
      · rw [ret_bind, ret_get]
        refine ⟨by omega, by omega, fun x' hx' => ?_⟩
        rw [Int.toNat_natCast, hx] at hx'
        obtain rfl := Option.some.inj hx'
        rw [ret_bind, ret_get]
        refine ⟨by omega, by omega, fun y' hy' => ?_⟩
        rw [Int.toNat_natCast, hy] at hy'
        obtain rfl := Option.some.inj hy'
        rw [cmpU_ok, obs]
        refine ⟨_, rfl, .inr ⟨_, rfl, ?_⟩⟩
        rcases Int.lt_or_gt_of_ne hne with h | h
        · rw [if_pos h, if_pos (lex_lt ha hb hx hy h2 h)]
        · have := lex_lt hb ha hy hx h2.symm h
          rw [if_neg (by omega), if_pos h, if_neg (by omega), if_pos this]
    · rintro _ (⟨rfl, h⟩ | ⟨c, rfl, h⟩)
      · refine ⟨_, rfl, ?_⟩
        rw [h, if_neg (by omega), if_neg (by omega)]
      · exact ⟨_, rfl, h⟩
  · rw [cmpInt_ok, obs]
    refine ⟨_, rfl, ?_⟩
    rcases Nat.lt_or_ge a.length b.length with h | h
    · rw [if_pos (by omega), if_pos (tm_len ha hb ta tb h)]
    · have := tm_len hb ha tb ta (show b.length < a.length by omega)
      rw [if_neg (by omega), if_pos (by omega), if_neg (by omega), if_pos this]
theorem take_succ {a : List Int} {i : Nat} {x : Int} (hx : a[i]? = some x) : lv (a.take (i + 1)) = lv (a.take i) + pw i * x := by
  rw [tks hx, lv_snoc, List.length_take, Nat.min_eq_left (by have := (List.getElem?_eq_some_iff.1 hx).1; omega)]
theorem take_stay {a : List Int} {i : Nat} (h : a.length ≤ i) : lv (a.take (i + 1)) = lv (a.take i) := by
  rw [take_all h, take_all (by omega)]
theorem plusJ_ok {a b : List Int} (ha : LW a) (hb : LW b) (hl : b.length ≤ a.length) (hn : a.length ≤ 1000) : Ret (integer_plus_j1 a b) (fun r => LW r ∧ Tm r ∧ lv r = lv a + lv b) := by
  unfold integer_plus_j1
  have h0 : mkLc (0 : Int) 0 (wa .i64 (a.length : Int) 1) = some [] := by
    rw [wa_i (by omega) (by omega)]; unfold mkLc BIG; rw [if_pos ⟨by omega, by omega, by omega⟩]; rfl
  rw [h0, obs, ret_bind]
  refine (ret_loop (Post := fun s : List Int × Int => LW s.1 ∧ s.1.length = a.length ∧ (s.2 = 0 ∨ s.2 = 1) ∧ lv s.1 + pw a.length * s.2 = lv a + lv b) a.length (fun i (s : List Int × Int × Int) => s.2.2 = (i : Int) ∧ LW s.1 ∧ s.1.length = i ∧ (s.2.1 = 0 ∨ s.2.1 = 1) ∧ lv s.1 + pw i * s.2.1 = lv (a.take i) + lv (b.take i)) ⟨rfl, by intro x hx; simp at hx, rfl, .inl rfl, by simp [lv]⟩ ?_ (by omega)).mono ?_
  · rintro i ⟨o, c, _⟩ hi ⟨rfl, h1, h2, h3, h4⟩
    simp only at h1 h2 h3 h4
    unfold integer_plus_l4 integer_plus_j5
    simp only
    rw [ret_if]
    refine ⟨fun hlt => ?_, fun hge => ⟨_, rfl, h1, by show o.length = _; omega, h3, ?_⟩⟩
    · have hia : i < a.length := by omega
      rw [ret_bind, ret_get]
      refine ⟨by omega, hlt, fun x hx => ?_⟩
      rw [Int.toNat_natCast] at hx
      have hxB := LW.get ha hx
      have e : B = 4294967296 := rfl
      have hcx : wc .u64 x = x := wc_u64_in ⟨hxB.1, by omega⟩
      have fin : ∀ (t : Int), 0 ≤ t → t < 2 * B → lv o + pw i * t = lv (a.take (i + 1)) + lv (b.take (i + 1)) → Ret ((app o [wc .u32 (wand .u64 t 4294967295)]).bind fun x52 => some (Sum.inl (β := List Int × Int) (x52, wsrc .u64 t 32, wa .i64 (i : Int) 1))) (VQ (fun s : List Int × Int × Int => i < a.length ∧ s.2.2 = ((i + 1 : Nat) : Int) ∧ LW s.1 ∧ s.1.length = i + 1 ∧ (s.2.1 = 0 ∨ s.2.1 = 1) ∧ lv s.1 + pw (i + 1) * s.2.1 = lv (a.take (i + 1)) + lv (b.take (i + 1))) (fun s : List Int × Int => LW s.1 ∧ s.1.length = a.length ∧ (s.2 = 0 ∨ s.2 = 1) ∧ lv s.1 + pw a.length * s.2 = lv a + lv b)) := by
        intro t t0 t1 ht
        have hm := Int.emod_nonneg t (show B ≠ 0 by omega)
        have hm2 := Int.emod_lt_of_pos t (show 0 < B by omega)
        have hd := Int.mul_ediv_add_emod t B
        rw [wand_low ⟨t0, by omega⟩, wsrc32 t0, wc_u32_in ⟨hm, hm2⟩, ret_bind, ret_app]
        refine ⟨by rw [h2]; simp only [List.length_cons, List.length_nil]; omega, _, rfl, hia, by show wa .i64 (i : Int) 1 = _; rw [wa_i (by omega) (by omega)]; rfl, LW.app.2 ⟨h1, LW.one.2 ⟨hm, hm2⟩⟩, by show (o ++ [_]).length = _; rw [List.length_append, h2]; rfl, by have q0 : 0 ≤ t / B := Int.ediv_nonneg t0 (by omega); have q1 : t / B < 2 := Int.ediv_lt_of_lt_mul (by omega) t1; show t / B = 0 ∨ t / B = 1; omega, ?_⟩
        show lv (o ++ [t % B]) + pw (i + 1) * (t / B) = _
        rw [lv_snoc, h2, ← ht]
        simp only [pw]
        have e3 : pw i * (B * (t / B) + t % B) = pw i * t := by rw [hd]
        have e4 : B * pw i * (t / B) = pw i * (B * (t / B)) := by grind
        rw [Int.mul_add] at e3
        omega
      have hts := take_succ hx
      rw [ret_if]
      refine ⟨fun hlb => ?_, fun hgb => ?_⟩
      · rw [ret_bind, ret_get]
        refine ⟨by omega, hlb, fun y hy => ?_⟩
        rw [Int.toNat_natCast] at hy
        have hyB := LW.get hb hy
        rw [hcx, wc_u64_in ⟨hyB.1, by omega⟩, wa_u64 (x := x) (y := c) ⟨by omega, by omega⟩, wa_u64 ⟨by omega, by omega⟩]
        refine fin _ (by omega) (by omega) ?_
        rw [hts, take_succ hy]
        have : pw i * (x + c + y) = pw i * x + pw i * c + pw i * y := by grind
        omega
      · rw [hcx, wa_u64 (x := x) (y := c) ⟨by omega, by omega⟩]
        refine fin _ (by omega) (by omega) ?_
        rw [hts, take_stay (a := b) (by omega)]
        have : pw i * (x + c) = pw i * x + pw i * c := by grind
        omega
    · have e : i = a.length := by omega
      subst e
      rw [List.take_length, take_all hl] at h4
      exact h4
  · rintro ⟨o, c⟩ ⟨h1, h2, h3, h4⟩
    simp only at h1 h2 h3 h4 ⊢
    have hc : wc .u32 c = c := wc_u32_in ⟨by omega, by unfold B; omega⟩
    have hlw : LW (o ++ [c]) := LW.app.2 ⟨h1, LW.one.2 ⟨by omega, by unfold B; omega⟩⟩
    rw [hc, ret_bind, ret_app]
    refine ⟨by rw [h2]; simp only [List.length_cons, List.length_nil]; omega, ?_⟩
    rw [trim_ok hlw (by rw [List.length_append, h2]; simp; omega), obs]
    exact ⟨_, rfl, trimL_lw hlw, trimL_tm _, by rw [trimL_lv, lv_snoc, h2]; exact h4⟩
theorem plus_ok {a b : List Int} (ha : LW a) (hb : LW b) (hn : a.length ≤ 1000) (hm : b.length ≤ 1000) : Ret (integer_plus a b) (fun r => LW r ∧ Tm r ∧ lv r = lv a + lv b) := by
  unfold integer_plus
  rw [ret_if]
  refine ⟨fun h => (plusJ_ok hb ha (by omega) hm).mono fun r hr => ⟨hr.1, hr.2.1, by omega⟩, fun h => plusJ_ok ha hb (by omega) hn⟩
end Km
/- The program's limbs: difference, machine integers, division by one limb; Reduce. -/
namespace Km
open Sx Go M Vc Lm
theorem low_borrow {v : Int} (h0 : -B ≤ v) (h1 : v < B) : ((v % 18446744073709551616) % B = v + B * (if v < 0 then 1 else 0)) ∧ ((v % 18446744073709551616) / B % 2 = if v < 0 then 1 else 0) ∧ 0 ≤ v % 18446744073709551616 ∧ v % 18446744073709551616 < 18446744073709551616 := by
  unfold B at *
  split <;> omega
theorem minus_ok {a b : List Int} (ha : LW a) (hb : LW b) (hn : a.length ≤ 1000) (hl : b.length ≤ a.length) (hv : lv b ≤ lv a) : Ret (integer_minus a b) (fun r => LW r ∧ Tm r ∧ lv r = lv a - lv b) := by
  have e : B = 4294967296 := rfl
  unfold integer_minus
  rw [ret_bind, ret_mkL]
  refine ⟨by omega, by omega, ?_⟩
  rw [Int.toNat_natCast, ret_bind]
  refine (ret_loop (Post := fun o : List Int => LW o ∧ o.length = a.length ∧ lv o = lv a - lv b) a.length (fun i (s : List Int × Int × Int) => s.2.2 = (i : Int) ∧ LW s.1 ∧ s.1.length = a.length ∧ (s.2.1 = 0 ∨ s.2.1 = 1) ∧ lv (s.1.take i) = lv (a.take i) - lv (b.take i) + pw i * s.2.1) ⟨rfl, fun x hx => by rw [List.mem_replicate] at hx; rw [hx.2]; omega, List.length_replicate .., .inl rfl, by simp [lv]⟩ ?_ (by omega)).mono ?_
  · rintro i ⟨o, c, _⟩ hi ⟨rfl, h1, h2, h3, h4⟩
    simp only at h1 h2 h3 h4
    unfold integer_minus_l3 integer_minus_j4
    simp only
    rw [ret_if]
    refine ⟨fun hlt => ?_, fun hge => ⟨_, rfl, h1, h2, ?_⟩⟩
    · have hia : i < a.length := by omega
      rw [ret_bind, ret_get]
      refine ⟨by omega, hlt, fun x hx => ?_⟩
      rw [Int.toNat_natCast] at hx
      have hxB := LW.get ha hx
      have hcx : wc .u64 x = x := wc_u64_in ⟨hxB.1, by omega⟩
      have hts := take_succ hx
      have fin : ∀ (t v : Int), t = v % 18446744073709551616 → -B ≤ v → v < B → lv (o.take i) + pw i * v = lv (a.take (i + 1)) - lv (b.take (i + 1)) → Ret ((setI o (i : Int) (wc .u32 (wand .u64 t 4294967295))).bind fun x35 => some (Sum.inl (β := List Int) (x35, wand .u64 (wsrc .u64 t 32) 1, wa .i64 (i : Int) 1))) (VQ (fun s : List Int × Int × Int => i < a.length ∧ s.2.2 = ((i + 1 : Nat) : Int) ∧ LW s.1 ∧ s.1.length = a.length ∧ (s.2.1 = 0 ∨ s.2.1 = 1) ∧ lv (s.1.take (i + 1)) = lv (a.take (i + 1)) - lv (b.take (i + 1)) + pw (i + 1) * s.2.1) (fun o : List Int => LW o ∧ o.length = a.length ∧ lv o = lv a - lv b)) := by
        intro t v ht v0 v1 hv
        obtain ⟨k1, k2, k3, k4⟩ := low_borrow v0 v1
        rw [← ht] at k1 k2 k3 k4
        have hm := Int.emod_nonneg t (show B ≠ 0 by omega)
        have hm2 := Int.emod_lt_of_pos t (show 0 < B by omega)
        have hd0 : 0 ≤ t / B := Int.ediv_nonneg k3 (by omega)
        have hd1 : t / B < 18446744073709551616 := Int.ediv_lt_of_lt_mul (by omega) (by omega)
        rw [wand_low ⟨k3, k4⟩, wsrc32 k3, wand_one ⟨hd0, hd1⟩, wc_u32_in ⟨hm, hm2⟩, k2, ret_bind, ret_set, Int.toNat_natCast]
        refine ⟨by omega, by omega, _, rfl, hia, by show wa .i64 (i : Int) 1 = _; rw [wa_i (by omega) (by omega)]; rfl, ?_, by show (o.set i _).length = _; rw [List.length_set, h2], by show (if v < 0 then (1 : Int) else 0) = 0 ∨ (if v < 0 then (1 : Int) else 0) = 1; split <;> omega, ?_⟩
        · intro y hy
          rcases List.mem_or_eq_of_mem_set hy with hy | rfl
          · exact h1 y hy
          · exact ⟨hm, hm2⟩
        · show lv ((o.set i (t % B)).take (i + 1)) = _ + pw (i + 1) * (if v < 0 then 1 else 0)
          have hs : (o.set i (t % B))[i]? = some (t % B) := by rw [List.getElem?_set_self]; omega
          rw [take_succ hs, List.take_set, List.set_eq_of_length_le (by rw [List.length_take]; omega), k1, ← hv]
          simp only [pw]
          generalize (if v < 0 then (1 : Int) else 0) = z
          grind
      rw [ret_if]
      refine ⟨fun hlb => ?_, fun hgb => ?_⟩
      · rw [ret_bind, ret_get]
        refine ⟨by omega, hlb, fun y hy => ?_⟩
        rw [Int.toNat_natCast] at hy
        have hyB := LW.get hb hy
        refine fin _ (x - c - y) ?_ (by omega) (by omega) ?_
        · rw [hcx, wc_u64_in ⟨hyB.1, by omega⟩, ws_u64, ws_u64]; omega
        · rw [hts, take_succ hy, h4]; grind
      · refine fin _ (x - c) ?_ (by omega) (by omega) ?_
        · rw [hcx, ws_u64]
        · rw [hts, take_stay (a := b) (by omega), h4]; grind
    · have ei : i = a.length := by omega
      subst ei
      rw [List.take_length, take_all hl, take_all (by omega)] at h4
      have hlt := lv_lt h1
      rw [h2] at hlt
      have hp := pw_pos a.length
      show lv o = _
      rcases h3 with rfl | rfl
      · omega
      · omega
  · rintro o ⟨h1, h2, h3⟩
    rw [trim_ok h1 (by omega), obs]
    exact ⟨_, rfl, trimL_lw h1, trimL_tm _, by rw [trimL_lv]; exact h3⟩
/-- a number of one limb at most, as a machine integer -/
theorem int_ok {r : Int} (h0 : 0 ≤ r) (h1 : r < B) {l : List Int} (hl : LW l) (ht : Tm l) (he : lv l = r) : integer_Int false l = some (r, true) := by
  have e : B = 4294967296 := rfl
  have hl2 : l = if r = 0 then [] else [r] := by
    refine tm_inj hl ?_ ht ?_ ?_
    · intro x hx; split at hx
      · simp at hx
      · simp at hx; omega
    · split
      · exact tm_nil
      · rename_i h; intro x hx; simp at hx; omega
    · rw [he]; split
      · rename_i h; rw [h]; rfl
      · simp [lv]
  refine Ret.eq ?_
  unfold integer_Int
  rw [trim_ok hl (by rw [hl2]; split <;> simp), obs, trimL_of hl ht, hl2]
  by_cases hz : r = 0
  · subst hz
    rw [if_pos rfl, if_neg (by simp), ret_bind]
    refine (ret_loop (Post := fun u : Int => u = 0) 0 (fun k (s : Int × Int) => s = (0, 0)) rfl ?_ (by omega)).mono ?_
    · rintro k _ hk rfl
      exact ⟨_, rfl, rfl⟩
    · rintro _ rfl
      exact ⟨_, rfl, rfl⟩
  · rw [if_neg hz, if_neg (by simp), ret_bind]
    refine (ret_loop (Post := fun u : Int => u = r) 1 (fun k (s : Int × Int) => s = (if k = 0 then 0 else r, (k : Int))) rfl ?_ (by omega)).mono ?_
    · rintro k _ hk rfl
      unfold integer_Int_l1
      simp only
      rw [ret_if]
      refine ⟨fun hlt => ?_, fun hge => ?_⟩
      · simp at hlt
        obtain rfl : k = 0 := by omega
        rw [ret_bind, ret_get]
        refine ⟨by omega, by simp, fun x hx => ?_⟩
        have hx : r = x := by simpa using hx
        subst hx
        have hwm : wm .i64 32 ((0 : Nat) : Int) = 0 := by rw [wm_i (by omega) (by omega)]; rfl
        have hws : wshl .u64 (wc .u64 r) 0 = some r := by
          rw [wc_u64_in ⟨h0, by omega⟩]
          unfold wshl
          rw [if_neg (by omega)]
          show some (IntKind.u64.wrap (r * 2 ^ (min (0 : Int).toNat 64))) = _
          rw [show (2 : Int) ^ (min (0 : Int).toNat 64) = 1 from rfl, Int.mul_one, IntWalk.u64_in _ ⟨h0, by omega⟩]
        rw [hwm, hws, obs]
        have hor : wor .u64 0 r = r := by
          have := wor_hi (x := 0) (y := r) ⟨by omega, by omega⟩ ⟨h0, h1⟩
          rw [Int.zero_mul, Int.zero_add] at this
          exact this
        refine ⟨_, rfl, by omega, ?_⟩
        rw [if_pos rfl, hor, if_neg (by omega), wa_i (by omega) (by omega)]
        rfl
      · simp at hge
        refine ⟨_, rfl, ?_⟩
        show (if k = 0 then (0 : Int) else r) = r
        rw [if_neg (by omega)]
    · rintro _ rfl
      rw [if_neg (by simp), if_pos (by simp; omega)]
      refine ⟨_, rfl, ?_⟩
      rw [wc_i64_in ⟨by omega, by omega⟩]
theorem len_le {l : List Int} {m : Nat} (hl : LW l) (ht : Tm l) (h : lv l < pw m) : l.length ≤ m := by
  refine Classical.byContradiction fun hc => ?_
  have hne : l ≠ [] := by rintro rfl; simp at hc
  have h5 := tm_lower hl ht hne
  have h7 := pw_mono (show m ≤ l.length - 1 by omega)
  omega
theorem tm_one {p : Int} (hp : 0 < p) : Tm [p] := by intro x hx; simp at hx; omega
theorem lw_one {p : Int} (hp : 0 < p) (hB : p < B) : LW [p] := LW.one.2 ⟨by omega, hB⟩
/-- division by one limb -/
theorem divide1_ok {a : List Int} {p : Int} (ha : LW a) (ta : Tm a) (hn : a.length ≤ 999) (hp : 0 < p) (hB : p < B) : ∃ q r, integer_divide a [p] = some (q, r) ∧ LW q ∧ Tm q ∧ LW r ∧ Tm r ∧ lv q = lv a / p ∧ lv r = lv a % p ∧ q.length ≤ 1000 := by
  have lp : lv [p] = p := by simp [lv]
  have h0 := lv_nn ha
  unfold integer_divide
  rw [compare_ok ha (lw_one hp hB) ta (tm_one hp) (by omega) (by simp), obs, lp]
  by_cases hlt : lv a < p
  · rw [if_pos hlt, if_pos (by omega)]
    have hc : slices_Clone_uint32 a = some a := by
      unfold slices_Clone_uint32 app BIG
      rw [if_pos (by simp; omega), obs, List.nil_append]
    rw [hc, obs]
    exact ⟨[], a, rfl, by intro x hx; simp at hx, tm_nil, ha, ta, by rw [Int.ediv_eq_zero_of_lt h0 hlt]; rfl, by rw [Int.emod_eq_of_lt h0 hlt], by simp⟩
  · have hneg : ¬ (if lv a < p then (-1 : Int) else if p < lv a then 1 else 0) < 0 := by rw [if_neg hlt]; split <;> omega
    rw [if_neg hneg, if_pos (by simp)]
    have hg : getI [p] 0 = some p := rfl
    obtain ⟨q, hq, q1, q2, q3⟩ := short_ok ha (by omega) hp hB
    have hr := Int.emod_nonneg (lv a) (show p ≠ 0 by omega)
    have hr2 := Int.emod_lt_of_pos (lv a) hp
    have hlw : LW [lv a % p] := LW.one.2 ⟨hr, by omega⟩
    rw [hg, obs, hq, obs, trim_ok hlw (by simp), obs]
    refine ⟨q, _, rfl, q1, q2, trimL_lw hlw, trimL_tm _, q3, by rw [trimL_lv]; simp [lv], ?_⟩
    refine Classical.byContradiction fun hc => ?_
    have hne : q ≠ [] := by rintro rfl; simp at hc
    have h5 := tm_lower q1 q2 hne
    have h6 := lv_lt ha
    have h7 := pw_mono (show a.length ≤ q.length - 1 by omega)
    have h8 : lv a / p ≤ lv a := Int.ediv_le_self _ h0
    omega
/-- the remainder of a number of either sign -/
theorem remainder_ok {s : Bool} {a : List Int} {p : Int} (ha : LW a) (hn : a.length ≤ 900) (hp : 0 < p) (hB : p < 2147483648) : modular_remainder s a p = some ((if s = true then - lv a else lv a) % p) := by
  have e : B = 4294967296 := rfl
  refine Ret.eq ?_
  unfold modular_remainder integer_DivMod
  have hta := trimL_lw ha
  have htl : (trimL a).length ≤ 999 := by
    refine Classical.byContradiction fun hc => ?_
    have hne : trimL a ≠ [] := by intro h; rw [h] at hc; simp at hc
    have h5 := tm_lower hta (trimL_tm a) hne
    rw [trimL_lv] at h5
    have h6 := lv_lt ha
    have h7 := pw_mono (show a.length ≤ (trimL a).length - 1 by omega)
    omega
  obtain ⟨q, r, hd, q1, q2, r1, r2, q3, r3, q4⟩ := divide1_ok hta (trimL_tm a) htl hp (by omega)
  rw [trimL_lv] at q3 r3
  have h0 := lv_nn ha
  have hr := Int.emod_nonneg (lv a) (show p ≠ 0 by omega)
  have hr2 := Int.emod_lt_of_pos (lv a) hp
  have fin : ∀ (sg : Bool) (x y : List Int) (v : Int), LW x → x.length ≤ 1000000 → LW y → Tm y → lv y = v → 0 ≤ v → v < p → v = (if s = true then - lv a else lv a) % p → Ret ((integer_DivMod_j2 sg false x y).bind fun r8 => (integer_Int r8.2.2.1 r8.2.2.2.1).bind fun r16 => some r16.1) (fun y => y = (if s = true then - lv a else lv a) % p) := by
    intro sg x y v hx hxl hy ty hyv v0 v1 hv
    unfold integer_DivMod_j2
    have hb1 := big_ok (!((sg == false))) hx hxl
    have hyl : y.length ≤ 1 := by
      refine Classical.byContradiction fun hc => ?_
      have hne : y ≠ [] := by rintro rfl; simp at hc
      have h5 := tm_lower hy ty hne
      have h7 := pw_mono (show 1 ≤ y.length - 1 by omega)
      have : pw 1 = B := by simp [pw]
      omega
    have hb2 := big_ok false hy (by omega)
    rw [trimL_of hy ty] at hb2
    have hb2' : integer_big false y = some (false, y) := by
      rw [hb2]; split
      · rename_i h; rw [h]
      · rfl
    rw [hb1, obs, hb2', obs, obs]
    simp only
    rw [int_ok v0 (by omega) hy ty hyv, obs]
    exact ⟨_, rfl, hv⟩
  rw [from_ok hp (by omega), obs]
  simp only
  rw [trim_ok (lw_one hp (by omega)) (by simp), trimL_of (lw_one hp (by omega)) (tm_one hp), obs, if_neg (by simp), trim_ok ha (by omega), obs, hd, obs]
  simp only
  by_cases hc : s = true ∧ 0 < r.length
  · obtain ⟨hs, hrl⟩ := hc
    subst hs
    rw [if_pos (by simp; omega)]
    have hrne : r ≠ [] := by rintro rfl; simp at hrl
    have hr0 : lv r ≠ 0 := fun h => hrne ((lv_zero r1 r2).1 h)
    have hlp : lv [p] = p := by simp [lv]
    have hrl1 : r.length ≤ 1 := by
      refine Classical.byContradiction fun hc => ?_
      have h5 := tm_lower r1 r2 hrne
      have h7 := pw_mono (show 1 ≤ r.length - 1 by omega)
      have : pw 1 = B := by simp [pw]
      omega
    obtain ⟨x, hx, x1, x2, x3⟩ := plus_ok q1 (b := [1]) (LW.one.2 ⟨by omega, by omega⟩) q4 (by simp)
    obtain ⟨y, hy, y1, y2, y3⟩ := minus_ok (lw_one hp (by omega)) r1 (by simp) (by simpa using hrl1) (by omega)
    have hE : ((integer_plus q [1]).bind fun r36 => (integer_minus [p] r).bind fun r38 => integer_DivMod_j2 true false r36 r38) = integer_DivMod_j2 true false x y := by rw [hx, obs, hy, obs]
    rw [hE]
    have hxl : x.length ≤ 1000 + 1 := by
      refine len_le x1 x2 ?_
      have := lv_lt q1
      have h9 := pw_mono q4
      have h8 := pw_pos 1000
      rw [x3]
      show lv q + lv [1] < B * pw 1000
      have : lv [1] = 1 := by simp [lv]
      rw [e]; omega
    refine fin true x y (p - lv a % p) x1 (by omega) y1 y2 (by rw [y3, hlp, r3]) (by omega) (by omega) ?_
    rw [if_pos rfl]
    have hm := Int.mul_ediv_add_emod (lv a) p
    have h8 : - lv a = (p - lv a % p) + p * (-(lv a / p) - 1) := by rw [Int.mul_sub, Int.mul_neg]; omega
    rw [h8, Int.add_mul_emod_self_left]
    exact (Int.emod_eq_of_lt (a := p - lv a % p) (b := p) (by omega) (by omega)).symm
  · rw [if_neg (by simp only [Bool.and_eq_true, decide_eq_true_eq]; rintro ⟨h1, h2⟩; exact hc ⟨h1, by omega⟩)]
    refine fin s q r (lv a % p) q1 (by omega) r1 r2 r3 hr hr2 ?_
    by_cases hs : s = true
    · have hr0 : r = [] := List.eq_nil_of_length_eq_zero (Nat.eq_zero_of_not_pos fun h => hc ⟨hs, h⟩)
      have hz : lv a % p = 0 := by rw [← r3, hr0]; rfl
      rw [if_pos hs, hz, Int.neg_emod, if_pos (Int.dvd_of_emod_eq_zero hz)]
    · rw [if_neg hs]
end Km
/- The paper's limbs: trimming, comparison, sums, differences. -/
namespace Km
open Sx Go M Vc Lm
theorem trimR_ok {l : List Int} (hl : LW l) (hn : l.length ≤ 1000000) : sparseref01_trim l = some (trimL l) := by
  refine Ret.eq ?_
  have h := trim_ok hl hn
  unfold integer_trim at h
  unfold sparseref01_trim
  have e3 : sparseref01_trim_l3 = integer_trim_l3 := rfl
  rw [e3]
  cases hL : loop (integer_trim_l3 l) (l.length : Int) with
  | none => rw [hL] at h; cases h
  | some i =>
    rw [hL, obs] at h
    have hs : ∃ t, sli l 0 i = some t ∧ t = trimL l := by
      cases hs : sli l 0 i with
      | none => rw [hs] at h; cases h
      | some t => rw [hs, obs] at h; exact ⟨t, rfl, Option.some.inj h⟩
    obtain ⟨t, ht, htr⟩ := hs
    obtain ⟨t1, _, t2, t3⟩ := sli_some ht
    obtain ⟨k, rfl⟩ := Int.eq_ofNat_of_zero_le t2
    have htk : t = l.take k := by rw [t1]; unfold subL; simp
    rw [obs, ret_bind]
    refine (ret_loop (Post := fun o => o = l.take k) k (fun m (s : List Int × Int) => s = (l.take m, (m : Int))) (by simp) ?_ (by omega)).mono fun o ho => ⟨_, rfl, by rw [ho, ← htk, htr]⟩
    rintro m _ hm rfl
    unfold sparseref01_trim_l4
    simp only
    rw [ret_if]
    refine ⟨fun hlt => ?_, fun hge => ⟨_, rfl, by have e : m = k := (by omega); rw [e]; rfl⟩⟩
    rw [ret_bind, ret_get]
    refine ⟨by omega, by omega, fun x hx => ?_⟩
    rw [Int.toNat_natCast] at hx
    rw [ret_bind, ret_app]
    refine ⟨by rw [List.length_take]; simp only [List.length_cons, List.length_nil]; omega, _, rfl, by omega, ?_⟩
    rw [wa_i (by omega) (by omega), ← tks hx]; rfl
theorem make1_ok {l : List Int} (s : Bool) (hl : LW l) (hn : l.length ≤ 1000000) : sparseref01_make1 s l = some (s && decide ((0 : Int) < ((trimL l).length : Int)), trimL l) := by
  unfold sparseref01_make1
  rw [trimR_ok hl hn, obs]
theorem norm_ok {l : List Int} (s : Bool) (hl : LW l) (hn : l.length ≤ 1000000) : sparseref01_Norm s l = some (s && decide ((0 : Int) < ((trimL l).length : Int)), trimL l) := by
  unfold sparseref01_Norm
  rw [make1_ok s hl hn, obs]
theorem fromR_ok {p : Int} (hp : 0 < p) (hB : p < B) : sparseref01_FromInt p = some (false, [p]) := by
  have e : B = 4294967296 := rfl
  unfold sparseref01_FromInt sparseref01_FromInt_j1
  rw [if_neg (by omega), wc_u64_in ⟨by omega, by omega⟩, wsrc32 (by omega)]
  have e2 : p / B = 0 := Int.ediv_eq_zero_of_lt (by omega) hB
  rw [e2, wc_u32_in ⟨by omega, hB⟩, wc_u32_in ⟨by omega, by omega⟩]
  have hl : LW [p, 0] := by
    intro x hx
    simp at hx
    omega
  have ht : trimL [p, 0] = [p] := by
    simp [trimL]
    omega
  rw [make1_ok _ hl (by simp), ht, obs]
  simp
  omega
theorem cmpMag_ok {a b : List Int} (ha : LW a) (hb : LW b) (ta : Tm a) (tb : Tm b) (hn : a.length ≤ 1000) (hm : b.length ≤ 1000) : sparseref01_cmpMag a b = some (if lv a < lv b then -1 else if lv b < lv a then 1 else 0) := by
  refine Ret.eq ?_
  unfold sparseref01_cmpMag
  rw [ret_if]
  refine ⟨fun hl => ?_, fun hl => ?_⟩
  · have hl : a.length = b.length := by omega
    rw [ret_bind]
    refine (ret_loop (Post := fun o => (o = .inl () ∧ a = b) ∨ ∃ c, o = .inr c ∧ c = (if lv a < lv b then -1 else if lv b < lv a then 1 else 0)) a.length (fun m (i : Int) => i = (a.length : Int) - 1 - m ∧ m ≤ a.length ∧ a.drop (a.length - m) = b.drop (a.length - m)) ⟨by rw [ws_i (by omega) (by omega)]; omega, by omega, by rw [Nat.sub_zero, List.drop_length, List.drop_of_length_le (by omega)]⟩ ?_ (by omega)).mono ?_
    · rintro m i hm' ⟨rfl, h1, h2⟩
      unfold sparseref01_cmpMag_l1
      rw [ret_if]
      refine ⟨fun hge => ?_, fun hlt => ⟨_, rfl, .inl ⟨rfl, by have e : a.length - m = 0 := (by omega); rwa [e, List.drop_zero, List.drop_zero] at h2⟩⟩⟩
      obtain ⟨j, hj⟩ : ∃ j : Nat, a.length = j + (m + 1) := ⟨a.length - (m + 1), by omega⟩
      have ej : (a.length : Int) - 1 - (m : Int) = (j : Int) := by omega
      have e2 : a.length - m = j + 1 := by omega
      rw [e2] at h2
      rw [ej, ret_bind, ret_get]
      refine ⟨by omega, by omega, fun x hx => ?_⟩
      rw [ret_bind, ret_get]
      refine ⟨by omega, by omega, fun y hy => ?_⟩
      rw [Int.toNat_natCast] at hx hy
      rw [ret_if]
      refine ⟨fun he => ⟨_, rfl, by omega, by rw [ws_i (by omega) (by omega)]; omega, by omega, ?_⟩, fun hne => ?_⟩
      · subst he
        obtain ⟨k1, k2⟩ := List.getElem?_eq_some_iff.1 hx
        obtain ⟨k3, k4⟩ := List.getElem?_eq_some_iff.1 hy
        rw [show a.length - (m + 1) = j by omega, List.drop_eq_getElem_cons k1, List.drop_eq_getElem_cons k3, k2, k4, h2]
      · rw [ret_bind, ret_get]
        refine ⟨by omega, by omega, fun x' hx' => ?_⟩
        rw [Int.toNat_natCast, hx] at hx'
        obtain rfl := Option.some.inj hx'
        rw [ret_bind, ret_get]
        refine ⟨by omega, by omega, fun y' hy' => ?_⟩
        rw [Int.toNat_natCast, hy] at hy'
        obtain rfl := Option.some.inj hy'
        rw [ret_if]
        refine ⟨fun h => ⟨_, rfl, .inr ⟨_, rfl, ?_⟩⟩, fun h => ⟨_, rfl, .inr ⟨_, rfl, ?_⟩⟩⟩
        · rw [if_pos (lex_lt ha hb hx hy h2 h)]
        · have := lex_lt hb ha hy hx h2.symm (show y < x by omega)
          rw [if_neg (by omega), if_pos this]
    · rintro _ (⟨rfl, h⟩ | ⟨c, rfl, h⟩)
      · refine ⟨_, rfl, ?_⟩
        rw [h, if_neg (by omega), if_neg (by omega)]
      · exact ⟨_, rfl, h⟩
  · rw [ret_if]
    refine ⟨fun h => ⟨_, rfl, ?_⟩, fun h => ⟨_, rfl, ?_⟩⟩
    · rw [if_pos (tm_len ha hb ta tb (by omega))]
    · have := tm_len hb ha tb ta (show b.length < a.length by omega)
      rw [if_neg (by omega), if_pos this]
theorem take_of {a : List Int} {i : Nat} : lv (a.take (i + 1)) = lv (a.take i) + pw i * a.getD i 0 := by
  rcases Nat.lt_or_ge i a.length with h | h
  · rw [take_succ (List.getElem?_eq_getElem h)]; simp [List.getD, h]
  · rw [take_stay h]; simp [List.getD, List.getElem?_eq_none h]
theorem addMag_ok {a b : List Int} (ha : LW a) (hb : LW b) (hn : a.length ≤ 1000) (hm : b.length ≤ 1000) : Ret (sparseref01_addMag a b) (fun r => LW r ∧ r.length ≤ 1001 ∧ lv r = lv a + lv b) := by
  have e : B = 4294967296 := rfl
  obtain ⟨N, hN⟩ : ∃ N : Nat, imax (a.length : Int) (b.length : Int) = (N : Int) ∧ a.length ≤ N ∧ b.length ≤ N ∧ N ≤ 1000 := by
    unfold imax
    split
    · exact ⟨b.length, rfl, by omega, by omega, hm⟩
    · exact ⟨a.length, rfl, by omega, by omega, hn⟩
  obtain ⟨hN, hNa, hNb, hN1⟩ := hN
  unfold sparseref01_addMag
  rw [ret_bind]
  refine (ret_loop (Post := fun s : List Int × Int => LW s.1 ∧ s.1.length = N ∧ (s.2 = 0 ∨ s.2 = 1) ∧ lv s.1 + pw N * s.2 = lv a + lv b) N (fun i (s : List Int × Int × Int) => s.2.2 = (i : Int) ∧ LW s.1 ∧ s.1.length = i ∧ (s.2.1 = 0 ∨ s.2.1 = 1) ∧ lv s.1 + pw i * s.2.1 = lv (a.take i) + lv (b.take i)) ⟨rfl, by intro x hx; simp at hx, rfl, .inl rfl, by simp [lv]⟩ ?_ (by omega)).mono ?_
  · rintro i ⟨o, c, _⟩ hi ⟨rfl, h1, h2, h3, h4⟩
    simp only at h1 h2 h3 h4
    unfold sparseref01_addMag_l5
    simp only
    rw [hN, ret_if]
    refine ⟨fun hlt => ?_, fun hge => ⟨_, rfl, h1, by show o.length = _; omega, h3, ?_⟩⟩
    · have hiN : i < N := by omega
      have fin : ∀ (t : Int), 0 ≤ t → t < 2 * B → t = c + a.getD i 0 + b.getD i 0 → Ret (sparseref01_addMag_j7 o (i : Int) t) (VQ (fun s : List Int × Int × Int => i < N ∧ s.2.2 = ((i + 1 : Nat) : Int) ∧ LW s.1 ∧ s.1.length = i + 1 ∧ (s.2.1 = 0 ∨ s.2.1 = 1) ∧ lv s.1 + pw (i + 1) * s.2.1 = lv (a.take (i + 1)) + lv (b.take (i + 1))) (fun s : List Int × Int => LW s.1 ∧ s.1.length = N ∧ (s.2 = 0 ∨ s.2 = 1) ∧ lv s.1 + pw N * s.2 = lv a + lv b)) := by
        intro t t0 t1 ht
        have hm := Int.emod_nonneg t (show B ≠ 0 by omega)
        have hm2 := Int.emod_lt_of_pos t (show 0 < B by omega)
        have hd := Int.mul_ediv_add_emod t B
        unfold sparseref01_addMag_j7
        rw [wc_u32, wsrc32 t0, ret_bind, ret_app]
        refine ⟨by rw [h2]; simp only [List.length_cons, List.length_nil]; omega, _, rfl, hiN, by show wa .i64 (i : Int) 1 = _; rw [wa_i (by omega) (by omega)]; rfl, LW.app.2 ⟨h1, LW.one.2 ⟨hm, hm2⟩⟩, by show (o ++ [_]).length = _; rw [List.length_append, h2]; rfl, by have q0 : 0 ≤ t / B := Int.ediv_nonneg t0 (by omega); have q1 : t / B < 2 := Int.ediv_lt_of_lt_mul (by omega) t1; show t / B = 0 ∨ t / B = 1; omega, ?_⟩
        show lv (o ++ [t % B]) + pw (i + 1) * (t / B) = _
        rw [lv_snoc, h2, take_of (a := a), take_of (a := b)]
        simp only [pw]
        have e3 : pw i * (B * (t / B) + t % B) = pw i * t := by rw [hd]
        have e4 : B * pw i * (t / B) = pw i * (B * (t / B)) := by grind
        have e5 : pw i * t = pw i * c + pw i * a.getD i 0 + pw i * b.getD i 0 := by rw [ht]; grind
        rw [Int.mul_add] at e3
        omega
      have second : ∀ (t : Int), 0 ≤ t → t < B + 1 → t = c + a.getD i 0 → Ret (sparseref01_addMag_j6 (i : Int) b o t) (VQ (fun s : List Int × Int × Int => i < N ∧ s.2.2 = ((i + 1 : Nat) : Int) ∧ LW s.1 ∧ s.1.length = i + 1 ∧ (s.2.1 = 0 ∨ s.2.1 = 1) ∧ lv s.1 + pw (i + 1) * s.2.1 = lv (a.take (i + 1)) + lv (b.take (i + 1))) (fun s : List Int × Int => LW s.1 ∧ s.1.length = N ∧ (s.2 = 0 ∨ s.2 = 1) ∧ lv s.1 + pw N * s.2 = lv a + lv b)) := by
        intro t t0 t1 ht
        unfold sparseref01_addMag_j6
        rw [ret_if]
        refine ⟨fun hlb => ?_, fun hgb => ?_⟩
        · rw [ret_bind, ret_get]
          refine ⟨by omega, hlb, fun y hy => ?_⟩
          rw [Int.toNat_natCast] at hy
          have hyB := LW.get hb hy
          have hyd : b.getD i 0 = y := by rw [List.getD_eq_getElem?_getD, hy]; rfl
          rw [wc_u64_in ⟨hyB.1, by omega⟩, wa_u64 ⟨by omega, by omega⟩]
          exact fin _ (by omega) (by omega) (by rw [ht, hyd])
        · have hyd : b.getD i 0 = 0 := by rw [List.getD_eq_getElem?_getD, List.getElem?_eq_none (by omega)]; rfl
          exact fin _ t0 (by omega) (by rw [ht, hyd, Int.add_zero])
      rw [ret_if]
      refine ⟨fun hla => ?_, fun hga => ?_⟩
      · rw [ret_bind, ret_get]
        refine ⟨by omega, hla, fun x hx => ?_⟩
        rw [Int.toNat_natCast] at hx
        have hxB := LW.get ha hx
        have hxd : a.getD i 0 = x := by rw [List.getD_eq_getElem?_getD, hx]; rfl
        rw [wc_u64_in ⟨hxB.1, by omega⟩, wa_u64 ⟨by omega, by omega⟩]
        exact second _ (by omega) (by omega) (by rw [hxd])
      · have hxd : a.getD i 0 = 0 := by rw [List.getD_eq_getElem?_getD, List.getElem?_eq_none (by omega)]; rfl
        exact second _ (by omega) (by omega) (by rw [hxd, Int.add_zero])
    · have ei : i = N := by omega
      subst ei
      rw [take_all hNa, take_all hNb] at h4
      exact h4
  · rintro ⟨o, c⟩ ⟨h1, h2, h3, h4⟩
    simp only at h1 h2 h3 h4 ⊢
    have hc : wc .u32 c = c := wc_u32_in ⟨by omega, by omega⟩
    have hlw : LW (o ++ [c]) := LW.app.2 ⟨h1, LW.one.2 ⟨by omega, by omega⟩⟩
    rw [hc, ret_bind, ret_app]
    refine ⟨by rw [h2]; simp only [List.length_cons, List.length_nil]; omega, _, rfl, hlw, by rw [List.length_append, h2]; simp; omega, by rw [lv_snoc, h2]; exact h4⟩
theorem sub_top {v : Int} (h0 : -B ≤ v) (h1 : v < B) : ((v % 18446744073709551616) % B = v + B * (if v < 0 then 1 else 0)) ∧ ((v % 18446744073709551616) / 9223372036854775808 = if v < 0 then 1 else 0) := by
  unfold B at *
  split <;> omega
theorem subMag_ok {a b : List Int} (ha : LW a) (hb : LW b) (hn : a.length ≤ 1000) (hl : b.length ≤ a.length) (hv : lv b ≤ lv a) : Ret (sparseref01_subMag a b) (fun r => LW r ∧ r.length ≤ 1001 ∧ lv r = lv a - lv b) := by
  have e : B = 4294967296 := rfl
  unfold sparseref01_subMag
  rw [ret_bind]
  refine (ret_loop (Post := fun o : List Int => LW o ∧ o.length = a.length ∧ lv o = lv a - lv b) a.length (fun i (s : List Int × Int × Int) => s.2.2 = (i : Int) ∧ LW s.1 ∧ s.1.length = i ∧ (s.2.1 = 0 ∨ s.2.1 = 1) ∧ lv s.1 = lv (a.take i) - lv (b.take i) + pw i * s.2.1) ⟨rfl, by intro x hx; simp at hx, rfl, .inl rfl, by simp [lv]⟩ ?_ (by omega)).mono fun o h => ⟨_, rfl, h.1, by omega, h.2.2⟩
  rintro i ⟨o, c, _⟩ hi ⟨rfl, h1, h2, h3, h4⟩
  simp only at h1 h2 h3 h4
  unfold sparseref01_subMag_l3 sparseref01_subMag_j4
  simp only
  rw [ret_if]
  refine ⟨fun hlt => ?_, fun hge => ⟨_, rfl, h1, by show o.length = _; omega, ?_⟩⟩
  · have hia : i < a.length := by omega
    rw [ret_bind, ret_get]
    refine ⟨by omega, hlt, fun x hx => ?_⟩
    rw [Int.toNat_natCast] at hx
    have hxB := LW.get ha hx
    have hcx : wc .u64 x = x := wc_u64_in ⟨hxB.1, by omega⟩
    have hts := take_succ hx
    have fin : ∀ (t v : Int), t = v % 18446744073709551616 → -B ≤ v → v < B → lv o + pw i * v = lv (a.take (i + 1)) - lv (b.take (i + 1)) → Ret ((app o [wc .u32 t]).bind fun x39 => some (Sum.inl (β := List Int) (x39, wsrc .u64 t 63, wa .i64 (i : Int) 1))) (VQ (fun s : List Int × Int × Int => i < a.length ∧ s.2.2 = ((i + 1 : Nat) : Int) ∧ LW s.1 ∧ s.1.length = i + 1 ∧ (s.2.1 = 0 ∨ s.2.1 = 1) ∧ lv s.1 = lv (a.take (i + 1)) - lv (b.take (i + 1)) + pw (i + 1) * s.2.1) (fun o : List Int => LW o ∧ o.length = a.length ∧ lv o = lv a - lv b)) := by
      intro t v ht v0 v1 hv
      obtain ⟨k1, k2⟩ := sub_top v0 v1
      rw [← ht] at k1 k2
      have k3 : 0 ≤ t := by rw [ht]; exact Int.emod_nonneg _ (by omega)
      have hm := Int.emod_nonneg t (show B ≠ 0 by omega)
      have hm2 := Int.emod_lt_of_pos t (show 0 < B by omega)
      rw [wc_u32, wsrc63 k3, k2, ret_bind, ret_app]
      refine ⟨by rw [h2]; simp only [List.length_cons, List.length_nil]; omega, _, rfl, hia, by show wa .i64 (i : Int) 1 = _; rw [wa_i (by omega) (by omega)]; rfl, LW.app.2 ⟨h1, LW.one.2 ⟨hm, hm2⟩⟩, by show (o ++ [_]).length = _; rw [List.length_append, h2]; rfl, by show (if v < 0 then (1 : Int) else 0) = 0 ∨ (if v < 0 then (1 : Int) else 0) = 1; split <;> omega, ?_⟩
      show lv (o ++ [t % B]) = _ + pw (i + 1) * (if v < 0 then 1 else 0)
      rw [lv_snoc, h2, k1, ← hv]
      simp only [pw]
      generalize (if v < 0 then (1 : Int) else 0) = z
      grind
    rw [ret_if]
    refine ⟨fun hlb => ?_, fun hgb => ?_⟩
    · rw [ret_bind, ret_get]
      refine ⟨by omega, hlb, fun y hy => ?_⟩
      rw [Int.toNat_natCast] at hy
      have hyB := LW.get hb hy
      refine fin _ (x - c - y) ?_ (by omega) (by omega) ?_
      · rw [hcx, wc_u64_in ⟨hyB.1, by omega⟩, ws_u64, ws_u64]; omega
      · rw [hts, take_succ hy, h4]; grind
    · refine fin _ (x - c) ?_ (by omega) (by omega) ?_
      · rw [hcx, ws_u64]
      · rw [hts, take_stay (a := b) (by omega), h4]; grind
  · have ei : i = a.length := by omega
    subst ei
    rw [List.take_length, take_all hl] at h4
    have hlt := lv_lt h1
    rw [h2] at hlt
    have hp := pw_pos a.length
    show lv o = _
    rcases h3 with rfl | rfl
    · omega
    · omega
end Km
/- The paper's division by one limb. -/
namespace Km
open Sx Go M Vc Lm
def lenTab : List Int := [0, 1, 2, 2, 3, 3, 3, 3, 4, 4, 4, 4, 4, 4, 4, 4, 5, 5, 5, 5, 5, 5, 5, 5, 5, 5, 5, 5, 5, 5, 5, 5, 6, 6, 6, 6, 6, 6, 6, 6, 6, 6, 6, 6, 6, 6, 6, 6, 6, 6, 6, 6, 6, 6, 6, 6, 6, 6, 6, 6, 6, 6, 6, 6] ++ List.replicate 64 7 ++ List.replicate 128 8
theorem lenTab_ok : (List.range 256).all (fun k => match lenTab[k]? with | some v => decide (0 ≤ v) && decide (v ≤ 8) && decide ((k : Int) < 2 ^ v.toNat) | none => false) = true := by decide +kernel
theorem lenT {x : Int} (h0 : 0 ≤ x) (h1 : x < 256) : ∃ v : Nat, getI lenTab x = some (v : Int) ∧ v ≤ 8 ∧ x < 2 ^ v := by
  obtain ⟨k, rfl⟩ := Int.eq_ofNat_of_zero_le h0
  have := List.all_eq_true.1 lenTab_ok k (List.mem_range.2 (by omega))
  cases h : lenTab[k]? with
  | none => rw [h] at this; simp at this
  | some v =>
    rw [h] at this
    simp only [Bool.and_eq_true, decide_eq_true_eq] at this
    obtain ⟨⟨a1, a2⟩, a3⟩ := this
    obtain ⟨w, rfl⟩ := Int.eq_ofNat_of_zero_le a1
    exact ⟨w, h, by omega, by simpa using a3⟩
theorem shr8 {x : Int} {n : Nat} (h : 0 ≤ x) (hn : n ≤ 32) : wsrc .u32 x n = x / 2 ^ n := by
  unfold wsrc
  show x.fdiv (2 ^ min n 32) = _
  rw [Nat.min_eq_left hn, Int.fdiv_eq_ediv_of_nonneg _ (Int.le_of_lt (Int.pow_pos (by omega)))]
theorem len_j2_eq (x c : Int) : math_bits_Len32_j2 x c = (getI lenTab (wc .u8 x)).bind fun x6 => some (wa .i64 c (wc .i64 x6)) := rfl
theorem len_j2 {x : Int} {c : Nat} (h0 : 0 ≤ x) (h1 : x < 256) (hc : c ≤ 24) : ∃ v : Nat, math_bits_Len32_j2 x (c : Int) = some ((c + v : Nat) : Int) ∧ v ≤ 8 ∧ x < 2 ^ v := by
  obtain ⟨v, h2, h3, h4⟩ := lenT h0 h1
  refine ⟨v, ?_, h3, h4⟩
  have hcv : wc .u8 x = x := by unfold wc; rw [IntKind.wrap_u8]; omega
  rw [len_j2_eq, hcv, h2, obs, wc_i64_in ⟨by omega, by omega⟩, wa_i (by omega) (by omega)]
  congr 1
theorem len32_ok {x : Int} (h0 : 0 ≤ x) (h1 : x < B) : ∃ v : Nat, math_bits_Len32 x = some (v : Int) ∧ v ≤ 32 ∧ x < 2 ^ v := by
  have e : B = 4294967296 := rfl
  have step : ∀ (y : Int) (c : Nat), 0 ≤ y → y < 65536 → c ≤ 16 → ∃ v : Nat, math_bits_Len32_j1 y (c : Int) = some ((c + v : Nat) : Int) ∧ v ≤ 16 ∧ y < 2 ^ v := by
    intro y c y0 y1 hc
    unfold math_bits_Len32_j1
    by_cases h : 256 ≤ y
    · rw [if_pos h, shr8 y0 (by omega), show wa .i64 (c : Int) 8 = ((c + 8 : Nat) : Int) by rw [wa_i (by omega) (by omega)]; omega]
      obtain ⟨v, h2, h3, h4⟩ := len_j2 (x := y / 2 ^ 8) (c := c + 8) (by omega) (by omega) (by omega)
      refine ⟨8 + v, by rw [h2]; congr 1; omega, by omega, ?_⟩
      rw [Int.pow_add]
      omega
    · rw [if_neg h]
      obtain ⟨v, h2, h3, h4⟩ := len_j2 (x := y) (c := c) y0 (by omega) (by omega)
      exact ⟨v, h2, by omega, h4⟩
  unfold math_bits_Len32
  by_cases h : 65536 ≤ x
  · rw [if_pos h, shr8 h0 (by omega)]
    obtain ⟨v, h2, h3, h4⟩ := step (x / 2 ^ 16) 16 (by omega) (by omega) (by omega)
    refine ⟨16 + v, h2, by omega, ?_⟩
    rw [Int.pow_add]
    omega
  · rw [if_neg h]
    obtain ⟨v, h2, h3, h4⟩ := step x 0 h0 (by omega) (by omega)
    exact ⟨v, by rw [show (0 : Int) = ((0 : Nat) : Int) from rfl, h2]; congr 1; omega, by omega, h4⟩
/-- the shift that normalizes -/
theorem lead_ok {p : Int} (hp : 0 < p) (hB : p < B) : ∃ s : Nat, math_bits_LeadingZeros32 p = some (s : Int) ∧ s < 32 ∧ p * 2 ^ s < B := by
  obtain ⟨v, h1, h2, h3⟩ := len32_ok (Int.le_of_lt hp) hB
  have hv : 0 < v := by
    rcases Nat.eq_zero_or_pos v with h | h
    · subst h; simp at h3; omega
    · exact h
  refine ⟨32 - v, ?_, by omega, ?_⟩
  · unfold math_bits_LeadingZeros32
    rw [h1, obs, ws_i (by omega) (by omega)]
    congr 1; omega
  · have e : (2 : Int) ^ v * 2 ^ (32 - v) = B := by
      rw [← Int.pow_add, show v + (32 - v) = 32 by omega]; rfl
    have hc : (0 : Int) < 2 ^ (32 - v) := Int.pow_pos (by omega)
    have := Int.mul_lt_mul_of_pos_right h3 hc
    omega
theorem shl_ok {a : List Int} (ha : LW a) (hn : a.length ≤ 1000) {s : Nat} (hs : s < 32) : Ret (sparseref01_shl a (s : Int)) (fun u => LW u ∧ u.length = a.length + 1 ∧ lv u = lv a * 2 ^ s) := by
  have e : B = 4294967296 := rfl
  have hq : wqc .i64 (s : Int) 32 = 0 := by
    show IntKind.wrap .i64 (Int.tdiv (s : Int) 32) = 0
    rw [Int.tdiv_eq_ediv_of_nonneg (by omega), Int.ediv_eq_zero_of_lt (by omega) (by omega)]; rfl
  have hr : wrc (s : Int) 32 = (s : Int) := by
    show Int.tmod (s : Int) 32 = _
    rw [Int.tmod_eq_emod_of_nonneg (by omega), Int.emod_eq_of_lt (by omega) (by omega)]
  have hP : 0 < (2 : Int) ^ s := Int.pow_pos (by omega)
  have hP2 : (2 : Int) ^ s ≤ 2 ^ 31 := by
    have : (2 : Nat) ^ s ≤ 2 ^ 31 := Nat.pow_le_pow_right (by omega) (by omega)
    exact_mod_cast this
  unfold sparseref01_shl
  rw [hq, ret_bind, ret_mkL]
  refine ⟨by omega, by omega, ?_⟩
  rw [ret_bind]
  refine (ret_loop (Post := fun s' : List Int × Int => LW s'.1 ∧ s'.1.length = a.length ∧ (0 ≤ s'.2 ∧ s'.2 < 2 ^ s) ∧ lv s'.1 + pw a.length * s'.2 = lv a * 2 ^ s) a.length (fun i (s' : List Int × Int × Int) => s'.2.2 = (i : Int) ∧ LW s'.1 ∧ s'.1.length = i ∧ (0 ≤ s'.2.1 ∧ s'.2.1 < 2 ^ s) ∧ lv s'.1 + pw i * s'.2.1 = lv (a.take i) * 2 ^ s) ⟨rfl, by intro x hx; simp at hx, rfl, ⟨by show (0 : Int) ≤ 0; omega, hP⟩, by simp [lv]⟩ ?_ (by omega)).mono ?_
  · rintro i ⟨o, c, _⟩ hi ⟨rfl, h1, h2, h3, h4⟩
    simp only at h1 h2 h3 h4
    unfold sparseref01_shl_l1
    simp only
    rw [ret_if, hr]
    refine ⟨fun hlt => ?_, fun hge => ⟨_, rfl, h1, by show o.length = _; omega, h3, by have ei : i = a.length := (by omega); subst ei; rw [List.take_length] at h4; exact h4⟩⟩
    have hia : i < a.length := by omega
    rw [ret_bind, ret_get]
    refine ⟨by omega, hlt, fun x hx => ?_⟩
    rw [Int.toNat_natCast] at hx
    have hxB := LW.get ha hx
    have hx2 : 0 ≤ x * 2 ^ s := Int.mul_nonneg hxB.1 (by omega)
    have hx3 : x * 2 ^ s ≤ (B - 1) * 2 ^ s := Int.mul_le_mul_of_nonneg_right (by omega) (by omega)
    have hx4 : (B - 1) * 2 ^ s ≤ (B - 1) * 2 ^ 31 := Int.mul_le_mul_of_nonneg_left hP2 (by omega)
    have hsh : wshl .u64 (wc .u64 x) (s : Int) = some (x * 2 ^ s) := by
      rw [wc_u64_in ⟨hxB.1, by omega⟩]
      unfold wshl
      rw [if_neg (by omega), Int.toNat_natCast]
      show some (IntKind.u64.wrap (x * 2 ^ min s 64)) = _
      rw [Nat.min_eq_left (by omega), IntWalk.u64_in _ ⟨hx2, by omega⟩]
    -- the carry fills the low bits
    have hor : wor .u64 c (x * 2 ^ s) = c + x * 2 ^ s := by
      unfold wor
      obtain ⟨C, rfl⟩ := Int.eq_ofNat_of_zero_le h3.1
      obtain ⟨X, rfl⟩ := Int.eq_ofNat_of_zero_le hxB.1
      have hC : C < 2 ^ s := by exact_mod_cast h3.2
      have e2 : ((X : Int) * 2 ^ s) = ((2 ^ s * X : Nat) : Int) := by push_cast; rw [Int.mul_comm]
      have hb : 2 ^ s * X < 18446744073709551616 := by have h9 : ((2 ^ s * X : Nat) : Int) < ((18446744073709551616 : Nat) : Int) := (by rw [← e2]; omega); exact Int.ofNat_lt.1 h9
      have hCb : C < 18446744073709551616 := by omega
      have e3 : (BitVec.ofInt 64 (C : Int) ||| BitVec.ofInt 64 ((X : Int) * 2 ^ s)).toNat = 2 ^ s * X + C := by
        rw [BitVec.toNat_or, bv64 (by omega), bv64 (by omega), e2, Int.toNat_natCast, Int.toNat_natCast, Nat.or_comm, ← Nat.two_pow_add_eq_or_of_lt hC]
      show IntKind.u64.wrap ((BitVec.ofInt 64 (C : Int) ||| BitVec.ofInt 64 ((X : Int) * 2 ^ s)).toNat : Int) = _
      rw [e3, IntWalk.u64_in _ ⟨by omega, by omega⟩, e2]
      push_cast
      omega
    rw [hsh, obs, hor]
    have t0 : 0 ≤ c + x * 2 ^ s := by omega
    have hm := Int.emod_nonneg (c + x * 2 ^ s) (show B ≠ 0 by omega)
    have hm2 := Int.emod_lt_of_pos (c + x * 2 ^ s) (show 0 < B by omega)
    have hd := Int.mul_ediv_add_emod (c + x * 2 ^ s) B
    have q0 : 0 ≤ (c + x * 2 ^ s) / B := Int.ediv_nonneg t0 (by omega)
    have q1 : (c + x * 2 ^ s) / B < 2 ^ s := by
      refine Int.ediv_lt_of_lt_mul (by omega) ?_
      have : (B - 1) * 2 ^ s = 2 ^ s * B - 2 ^ s := by grind
      omega
    rw [wc_u32, wsrc32 t0, ret_bind, ret_app]
    refine ⟨by rw [h2]; simp only [List.length_cons, List.length_nil]; omega, _, rfl, hia, by show wa .i64 (i : Int) 1 = _; rw [wa_i (by omega) (by omega)]; rfl, LW.app.2 ⟨h1, LW.one.2 ⟨hm, hm2⟩⟩, by show (o ++ [_]).length = _; rw [List.length_append, h2]; rfl, ⟨q0, q1⟩, ?_⟩
    show lv (o ++ [(c + x * 2 ^ s) % B]) + pw (i + 1) * ((c + x * 2 ^ s) / B) = _
    rw [lv_snoc, h2, take_succ hx]
    simp only [pw]
    have e3 : pw i * (B * ((c + x * 2 ^ s) / B) + (c + x * 2 ^ s) % B) = pw i * (c + x * 2 ^ s) := by rw [hd]
    have e4 : B * pw i * ((c + x * 2 ^ s) / B) = pw i * (B * ((c + x * 2 ^ s) / B)) := by grind
    have e5 : pw i * (c + x * 2 ^ s) = pw i * c + pw i * x * 2 ^ s := by grind
    rw [Int.mul_add] at e3
    rw [Int.add_mul]
    omega
  · rintro ⟨o, c⟩ ⟨h1, h2, h3, h4⟩
    simp only at h1 h2 h3 h4 ⊢
    have hc : wc .u32 c = c := wc_u32_in ⟨h3.1, by omega⟩
    rw [hc, ret_bind, ret_app]
    exact ⟨by rw [h2]; simp only [List.length_cons, List.length_nil]; omega, _, rfl, LW.app.2 ⟨h1, LW.one.2 ⟨h3.1, by omega⟩⟩, by rw [List.length_append, h2]; rfl, by rw [lv_snoc, h2]; exact h4⟩
end Km
