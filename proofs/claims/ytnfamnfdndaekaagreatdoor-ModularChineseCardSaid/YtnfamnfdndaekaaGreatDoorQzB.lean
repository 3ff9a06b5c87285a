/- The program's limbs: trimming, numbers from machine integers, short division, comparison. -/
import Derived.Test.YtnfamnfdndaekaaGreatDoorM4
import Derived.Test.YtnfamnfdndaekaaGreatDoorVcA
import Derived.Test.YtnfamnfdndaekaaGreatDoorQzA
import Derived.KernelRfl
import Derived.Test.YtnfamnfdndaekaaGreatDoorSxR
set_option linter.unusedVariables false
set_option linter.unusedSimpArgs false
set_option maxHeartbeats 4000000
namespace Km
open Sx Go M Vc Lm
theorem lv_snoc (l : List Int) (x : Int) : lv (l ++ [x]) = lv l + pw l.length * x := by
  rw [lv_app]; simp [lv]
theorem LW.take {l : List Int} (h : LW l) (k : Nat) : LW (l.take k) := fun x hx => h x (List.mem_of_mem_take hx)
theorem LW.get {l : List Int} (h : LW l) {k : Nat} {x : Int} (hx : l[k]? = some x) : 0 ≤ x ∧ x < B := h x (mem_get hx)
theorem trim_ok {l : List Int} (hl : LW l) (hn : l.length ≤ 1000000) : integer_trim l = some (trimL l) := by
  refine Ret.eq ?_
  unfold integer_trim
  rw [ret_bind]
  refine (ret_loop (Post := fun i => ∃ k : Nat, i = (k : Int) ∧ k ≤ l.length ∧ lv (l.take k) = lv l ∧ Tm (l.take k)) l.length (fun m (i : Int) => i = ((l.length - m : Nat) : Int) ∧ m ≤ l.length ∧ lv (l.take (l.length - m)) = lv l) ⟨by rw [Nat.sub_zero], by omega, by rw [Nat.sub_zero, List.take_length]⟩ ?_ (by omega)).mono ?_
  · rintro m _ hm ⟨rfl, h1, h2⟩
    unfold integer_trim_l3
    rw [ret_bind, ret_if]
    refine ⟨fun hlt => ?_, fun hge => ?_⟩
    · have e1 : ws .i64 ((l.length - m : Nat) : Int) 1 = ((l.length - (m + 1) : Nat) : Int) := by rw [ws_i (by omega) (by omega)]; omega
      rw [e1, ret_bind, ret_get]
      refine ⟨by omega, by omega, fun x hx => ?_⟩
      rw [Int.toNat_natCast] at hx
      have ht : l.take (l.length - m) = l.take (l.length - (m + 1)) ++ [x] := by
        rw [show l.length - m = l.length - (m + 1) + 1 by omega]; exact tks hx
      rw [ret_some, ret_if]
      refine ⟨fun hz => ?_, fun hz => ?_⟩
      · have hz : x = 0 := by simpa using hz
        refine ⟨_, rfl, by omega, rfl, by omega, ?_⟩
        rw [← h2, ht, lv_snoc, hz]; simp
      · have hz : x ≠ 0 := by simpa using hz
        exact ⟨_, rfl, l.length - m, rfl, by omega, h2, by rw [ht]; exact tm_snoc hz⟩
    · rw [ret_some, if_neg (by simp)]
      have e : l.length - m = 0 := by omega
      exact ⟨_, rfl, 0, by rw [e], by omega, by rw [← h2, e], by simp [Tm]⟩
  · rintro _ ⟨k, rfl, h1, h2, h3⟩
    rw [ret_bind, ret_sli]
    refine ⟨by omega, by omega, by omega, _, rfl, ?_⟩
    rw [Int.toNat_natCast, show (0 : Int).toNat = 0 from rfl, List.drop_zero]
    exact tm_ext (LW.take hl k) hl h3 h2
theorem big_ok {l : List Int} (s : Bool) (hl : LW l) (hn : l.length ≤ 1000000) : integer_big s l = some (if trimL l = [] then (false, []) else (s, trimL l)) := by
  unfold integer_big
  rw [trim_ok hl hn, obs]
  by_cases h : trimL l = []
  · rw [if_pos (by rw [h]; rfl), if_pos h]
  · rw [if_neg (by simpa using h), if_neg h]
/-- a number from 1 to B - 1 is one limb -/
theorem from_ok {p : Int} (hp : 0 < p) (hB : p < B) : integer_FromInt p = some (false, [p]) := by
  unfold B at hB
  unfold integer_FromInt integer_FromInt_j1
  rw [if_neg (by omega), wc_u64_in ⟨by omega, by omega⟩, wand_low ⟨by omega, by omega⟩, wsrc32 (by omega)]
  have e1 : p % B = p := Int.emod_eq_of_lt (by omega) (by unfold B; omega)
  have e2 : p / B = 0 := Int.ediv_eq_zero_of_lt (by omega) (by unfold B; omega)
  rw [e1, e2, wc_u32_in ⟨by omega, by unfold B; omega⟩, wc_u32_in ⟨by omega, by unfold B; omega⟩]
  have hl : LW [p, 0] := by
    intro x hx
    simp at hx
    unfold B
    omega
  have ht : trimL [p, 0] = [p] := by
    simp [trimL]
    omega
  rw [big_ok _ hl (by simp), ht, obs, if_neg (by simp)]
  simp
  omega
/-- short division -/
theorem short_ok {a : List Int} {d : Int} (ha : LW a) (hn : a.length ≤ 1000) (hd : 0 < d) (hB : d < B) : ∃ q, integer_short a d = some (q, lv a % d) ∧ LW q ∧ Tm q ∧ lv q = lv a / d := by
  have key : Ret (integer_short a d) (fun r => LW r.1 ∧ Tm r.1 ∧ lv r.1 = lv a / d ∧ r.2 = lv a % d) := by
    unfold B at hB
    unfold integer_short
    rw [ret_bind, ret_mkL]
    refine ⟨by omega, by omega, ?_⟩
    rw [Int.toNat_natCast, ret_bind]
    have hcd : wc .u64 d = d := wc_u64_in ⟨by omega, by omega⟩
    refine (ret_loop (Post := fun s : List Int × Int => LW s.1 ∧ s.1.length = a.length ∧ (0 ≤ s.2 ∧ s.2 < d) ∧ lv a = lv s.1 * d + s.2) a.length (fun m (s : List Int × Int × Int) => s.2.2 = (a.length : Int) - 1 - m ∧ m ≤ a.length ∧ LW s.1 ∧ s.1.length = a.length ∧ (0 ≤ s.2.1 ∧ s.2.1 < d) ∧ lv (a.drop (a.length - m)) = lv (s.1.drop (a.length - m)) * d + s.2.1) ⟨by show ws .i64 (a.length : Int) 1 = _; rw [ws_i (by omega) (by omega)]; simp, by omega, fun x hx => by rw [List.mem_replicate] at hx; rw [hx.2]; unfold B; omega, List.length_replicate .., ⟨by show (0 : Int) ≤ 0; omega, hd⟩, by rw [Nat.sub_zero, List.drop_length, List.drop_of_length_le (by simp)]; simp [lv]⟩ ?_ (by omega)).mono ?_
    · rintro m ⟨q, r, _⟩ hm ⟨h1, h2, h3, h4, h5, h6⟩
      simp only at h1 h3 h4 h5 h6
      subst h1
      unfold integer_short_l1
      simp only
      rw [ret_if]
      refine ⟨fun hge => ?_, fun hlt => ⟨_, rfl, h3, h4, h5, ?_⟩⟩
      · obtain ⟨i, hi⟩ : ∃ i : Nat, a.length = i + (m + 1) := ⟨a.length - (m + 1), by omega⟩
        have ei : (a.length : Int) - 1 - (m : Int) = (i : Int) := by omega
        rw [ei, ret_bind, ret_get]
        refine ⟨by omega, by omega, fun x hx => ?_⟩
        rw [Int.toNat_natCast] at hx
        have hxB := LW.get ha hx
        have hr2 : 0 ≤ r ∧ r < B := ⟨h5.1, by unfold B; omega⟩
        have ht : wor .u64 (wslc .u64 r 32) (wc .u64 x) = r * B + x := by
          rw [wslc32 hr2, wc_u64_in ⟨hxB.1, by unfold B at hxB; omega⟩, wor_hi hr2 hxB]
        rw [ht, hcd]
        have hr3 : r + 1 ≤ d := by omega
        have hmul : (r + 1) * B ≤ d * B := Int.mul_le_mul_of_nonneg_right hr3 (by unfold B; omega)
        have hrB : 0 ≤ r * B := Int.mul_nonneg h5.1 (by unfold B; omega)
        rw [Int.add_mul, Int.one_mul] at hmul
        have htn : 0 ≤ r * B + x := by omega
        have hq0 : 0 ≤ (r * B + x) / d := Int.ediv_nonneg htn (by omega)
        have hqB : (r * B + x) / d < B := Int.ediv_lt_of_lt_mul hd (by rw [Int.mul_comm B d]; omega)
        have hrem : 0 ≤ (r * B + x) % d ∧ (r * B + x) % d < d := ⟨Int.emod_nonneg _ (by omega), Int.emod_lt_of_pos _ hd⟩
        have hwq : wq .u64 (r * B + x) d = some ((r * B + x) / d) := by
          unfold wq
          rw [if_neg (by omega), Int.tdiv_eq_ediv_of_nonneg htn, IntWalk.u64_in _ ⟨hq0, by have e : B = 4294967296 := rfl; omega⟩]
        have hwr : wr (r * B + x) d = some ((r * B + x) % d) := by
          unfold wr
          rw [if_neg (by omega), Int.tmod_eq_emod_of_nonneg htn]
        rw [hwq, obs, ret_bind, ret_set]
        refine ⟨by omega, by omega, ?_⟩
        rw [hwr, obs, Int.toNat_natCast, wc_u32_in ⟨hq0, hqB⟩]
        refine ⟨_, rfl, by omega, ?_⟩
        simp only
        refine ⟨by rw [ws_i (by omega) (by omega)]; omega, by omega, ?_, by rw [List.length_set]; exact h4, hrem, ?_⟩
        · intro y hy
          rcases List.mem_or_eq_of_mem_set hy with hy | rfl
          · exact h3 y hy
          · exact ⟨hq0, hqB⟩
        · have e1 : a.length - (m + 1) = i := by omega
          have e2 : a.length - m = i + 1 := by omega
          rw [e2] at h6
          rw [e1]
          have ea : a.drop i = x :: a.drop (i + 1) := by
            obtain ⟨hlt, he⟩ := List.getElem?_eq_some_iff.1 hx
            rw [← he]; exact List.drop_eq_getElem_cons hlt
          have eq : (q.set i ((r * B + x) / d)).drop i = ((r * B + x) / d) :: q.drop (i + 1) := by
            have hlt : i < (q.set i ((r * B + x) / d)).length := by rw [List.length_set]; omega
            rw [List.drop_eq_getElem_cons hlt, List.getElem_set_self, List.drop_set_of_lt (by omega)]
          rw [ea, eq]
          simp only [lv]
          rw [h6]
          have h7 := Int.mul_ediv_add_emod (r * B + x) d
          have e9 : ((r * B + x) / d + B * lv (q.drop (i + 1))) * d = d * ((r * B + x) / d) + B * (lv (q.drop (i + 1)) * d) := by grind
          rw [e9]
          have e10 : B * (lv (q.drop (i + 1)) * d + r) = B * (lv (q.drop (i + 1)) * d) + r * B := by grind
          rw [e10]
          omega
      · have e : a.length - m = 0 := by omega
        rw [e, List.drop_zero, List.drop_zero] at h6
        exact h6
    · rintro ⟨q, r⟩ ⟨h1, h2, h3, h4⟩
      simp only at h1 h2 h3 h4 ⊢
      rw [trim_ok h1 (by omega), obs]
      refine ⟨_, rfl, trimL_lw h1, trimL_tm q, ?_, ?_⟩
      · show lv (trimL q) = _
        rw [trimL_lv, h4, Int.add_comm, Int.add_mul_ediv_right _ _ (by omega), Int.ediv_eq_zero_of_lt h3.1 h3.2, Int.zero_add]
      · show wc .u32 r = _
        rw [wc_u32_in ⟨h3.1, by unfold B; omega⟩, h4, Int.add_comm, Int.add_mul_emod_self_right, Int.emod_eq_of_lt h3.1 h3.2]
  obtain ⟨⟨q, r⟩, h0, h1, h2, h3, h4⟩ := key
  simp only at h1 h2 h3 h4
  exact ⟨q, by rw [h0, h4], h1, h2, h3⟩
end Km
/- The program's limbs: comparison, sum, difference; remainders by one limb. -/
namespace Km
open Sx Go M Vc Lm
theorem cmpInt_ok (x y : Int) : cmp_Compare_int x y = some (if x < y then -1 else if y < x then 1 else 0) := by
  unfold cmp_Compare_int cmp_isNaN_int
  simp only [decide_true, Bool.not_true, obs, if_false, Bool.false_eq_true]
  split
  · rfl
  · split <;> rfl
theorem cmpU_ok (x y : Int) : cmp_Compare_uint32 x y = some (if x < y then -1 else if y < x then 1 else 0) := by
  unfold cmp_Compare_uint32 cmp_isNaN_uint32
  simp only [decide_true, Bool.not_true, obs, if_false, Bool.false_eq_true]
  split
  · rfl
  · split <;> rfl
theorem split_at {a : List Int} {i : Nat} {x : Int} (hx : a[i]? = some x) : lv a = lv (a.take i) + pw i * (x + B * lv (a.drop (i + 1))) := by
  obtain ⟨hlt, he⟩ := List.getElem?_eq_some_iff.1 hx
  have e : a = a.take i ++ (x :: a.drop (i + 1)) := by
    rw [← he, ← List.drop_eq_getElem_cons hlt, List.take_append_drop]
  have e2 : lv a = lv (a.take i ++ (x :: a.drop (i + 1))) := congrArg lv e
  rw [e2, lv_app]
  simp only [lv, List.length_take]
  rw [Nat.min_eq_left (by omega)]
theorem take_lt {a : List Int} (ha : LW a) {i : Nat} (hi : i ≤ a.length) : 0 ≤ lv (a.take i) ∧ lv (a.take i) < pw i := by
  have h1 := lv_lt (LW.take ha i)
  rw [List.length_take, Nat.min_eq_left hi] at h1
  exact ⟨lv_nn (LW.take ha i), h1⟩
theorem lex_lt {a b : List Int} (ha : LW a) (hb : LW b) {i : Nat} {x y : Int} (hx : a[i]? = some x) (hy : b[i]? = some y) (he : a.drop (i + 1) = b.drop (i + 1)) (h : x < y) : lv a < lv b := by
  have h1 := (List.getElem?_eq_some_iff.1 hx).1
  have h2 := (List.getElem?_eq_some_iff.1 hy).1
  rw [split_at hx, split_at hy, he]
  have t1 := take_lt ha (i := i) (by omega)
  have t2 := take_lt hb (i := i) (by omega)
  have hp := pw_pos i
  have e1 : pw i * (y + B * lv (b.drop (i + 1))) = pw i * (x + B * lv (b.drop (i + 1))) + pw i * (y - x) := by grind
  have e2 : pw i * 1 ≤ pw i * (y - x) := Int.mul_le_mul_of_nonneg_left (by omega) (by omega)
  rw [e1]
  omega
theorem compare_ok {a b : List Int} (ha : LW a) (hb : LW b) (ta : Tm a) (tb : Tm b) (hn : a.length ≤ 1000) (hm : b.length ≤ 1000) : integer_compare a b = some (if lv a < lv b then -1 else if lv b < lv a then 1 else 0) := by
  refine Ret.eq ?_
  unfold integer_compare
  rw [ret_if]
  refine ⟨fun hl => ?_, fun hl => ?_⟩
  · have hl : a.length = b.length := by omega
    rw [ret_bind]
    refine (ret_loop (Post := fun o => (o = .inl () ∧ a = b) ∨ ∃ c, o = .inr c ∧ c = (if lv a < lv b then -1 else if lv b < lv a then 1 else 0)) a.length (fun m (i : Int) => i = (a.length : Int) - 1 - m ∧ m ≤ a.length ∧ a.drop (a.length - m) = b.drop (a.length - m)) ⟨by rw [ws_i (by omega) (by omega)]; omega, by omega, by rw [Nat.sub_zero, List.drop_length, List.drop_of_length_le (by omega)]⟩ ?_ (by omega)).mono ?_
    · rintro m i hm' ⟨rfl, h1, h2⟩
      unfold integer_compare_l1
      rw [ret_if]
      refine ⟨fun hge => ?_, fun hlt => ⟨_, rfl, .inl ⟨rfl, by have e : a.length - m = 0 := (by omega); rwa [e, List.drop_zero, List.drop_zero] at h2⟩⟩⟩
      obtain ⟨j, hj⟩ : ∃ j : Nat, a.length = j + (m + 1) := ⟨a.length - (m + 1), by omega⟩
      have ej : (a.length : Int) - 1 - (m : Int) = (j : Int) := by omega
      have e2 : a.length - m = j + 1 := by omega
      rw [e2] at h2
      rw [ej, ret_bind, ret_get]
      refine ⟨by omega, by omega, fun x hx => ?_⟩
      rw [ret_bind, ret_get]
      refine ⟨by omega, by omega, fun y hy => ?_⟩
      rw [Int.toNat_natCast] at hx hy
      rw [ret_if]
      refine ⟨fun he => ⟨_, rfl, by omega, by rw [ws_i (by omega) (by omega)]; omega, by omega, ?_⟩, fun hne => ?_⟩
      · subst he
        obtain ⟨k1, k2⟩ := List.getElem?_eq_some_iff.1 hx
        obtain ⟨k3, k4⟩ := List.getElem?_eq_some_iff.1 hy
        rw [show a.length - (m + 1) = j by omega, List.drop_eq_getElem_cons k1, List.drop_eq_getElem_cons k3, k2, k4, h2]
      · rw [ret_bind, ret_get]
        refine ⟨by omega, by omega, fun x' hx' => ?_⟩
        rw [Int.toNat_natCast, hx] at hx'
        obtain rfl := Option.some.inj hx'
        rw [ret_bind, ret_get]
        refine ⟨by omega, by omega, fun y' hy' => ?_⟩
        rw [Int.toNat_natCast, hy] at hy'
        obtain rfl := Option.some.inj hy'
        rw [cmpU_ok, obs]
        refine ⟨_, rfl, .inr ⟨_, rfl, ?_⟩⟩
        rcases Int.lt_or_gt_of_ne hne with h | h
        · rw [if_pos h, if_pos (lex_lt ha hb hx hy h2 h)]
        · have := lex_lt hb ha hy hx h2.symm h
          rw [if_neg (by omega), if_pos h, if_neg (by omega), if_pos this]
    · rintro _ (⟨rfl, h⟩ | ⟨c, rfl, h⟩)
      · refine ⟨_, rfl, ?_⟩
        rw [h, if_neg (by omega), if_neg (by omega)]
      · exact ⟨_, rfl, h⟩
  · rw [cmpInt_ok, obs]
    refine ⟨_, rfl, ?_⟩
    rcases Nat.lt_or_ge a.length b.length with h | h
    · rw [if_pos (by omega), if_pos (tm_len ha hb ta tb h)]
    · have := tm_len hb ha tb ta (show b.length < a.length by omega)
      rw [if_neg (by omega), if_pos (by omega), if_neg (by omega), if_pos this]
theorem take_succ {a : List Int} {i : Nat} {x : Int} (hx : a[i]? = some x) : lv (a.take (i + 1)) = lv (a.take i) + pw i * x := by
  rw [tks hx, lv_snoc, List.length_take, Nat.min_eq_left (by have := (List.getElem?_eq_some_iff.1 hx).1; omega)]
theorem take_stay {a : List Int} {i : Nat} (h : a.length ≤ i) : lv (a.take (i + 1)) = lv (a.take i) := by
  rw [take_all h, take_all (by omega)]
theorem plusJ_ok {a b : List Int} (ha : LW a) (hb : LW b) (hl : b.length ≤ a.length) (hn : a.length ≤ 1000) : Ret (integer_plus_j1 a b) (fun r => LW r ∧ Tm r ∧ lv r = lv a + lv b) := by
  unfold integer_plus_j1
  have h0 : mkLc (0 : Int) 0 (wa .i64 (a.length : Int) 1) = some [] := by
    rw [wa_i (by omega) (by omega)]; unfold mkLc BIG; rw [if_pos ⟨by omega, by omega, by omega⟩]; rfl
  rw [h0, obs, ret_bind]
  refine (ret_loop (Post := fun s : List Int × Int => LW s.1 ∧ s.1.length = a.length ∧ (s.2 = 0 ∨ s.2 = 1) ∧ lv s.1 + pw a.length * s.2 = lv a + lv b) a.length (fun i (s : List Int × Int × Int) => s.2.2 = (i : Int) ∧ LW s.1 ∧ s.1.length = i ∧ (s.2.1 = 0 ∨ s.2.1 = 1) ∧ lv s.1 + pw i * s.2.1 = lv (a.take i) + lv (b.take i)) ⟨rfl, by intro x hx; simp at hx, rfl, .inl rfl, by simp [lv]⟩ ?_ (by omega)).mono ?_
  · rintro i ⟨o, c, _⟩ hi ⟨rfl, h1, h2, h3, h4⟩
    simp only at h1 h2 h3 h4
    unfold integer_plus_l4 integer_plus_j5
    simp only
    rw [ret_if]
    refine ⟨fun hlt => ?_, fun hge => ⟨_, rfl, h1, by show o.length = _; omega, h3, ?_⟩⟩
    · have hia : i < a.length := by omega
      rw [ret_bind, ret_get]
      refine ⟨by omega, hlt, fun x hx => ?_⟩
      rw [Int.toNat_natCast] at hx
      have hxB := LW.get ha hx
      have e : B = 4294967296 := rfl
      have hcx : wc .u64 x = x := wc_u64_in ⟨hxB.1, by omega⟩
      have fin : ∀ (t : Int), 0 ≤ t → t < 2 * B → lv o + pw i * t = lv (a.take (i + 1)) + lv (b.take (i + 1)) → Ret ((app o [wc .u32 (wand .u64 t 4294967295)]).bind fun x52 => some (Sum.inl (β := List Int × Int) (x52, wsrc .u64 t 32, wa .i64 (i : Int) 1))) (VQ (fun s : List Int × Int × Int => i < a.length ∧ s.2.2 = ((i + 1 : Nat) : Int) ∧ LW s.1 ∧ s.1.length = i + 1 ∧ (s.2.1 = 0 ∨ s.2.1 = 1) ∧ lv s.1 + pw (i + 1) * s.2.1 = lv (a.take (i + 1)) + lv (b.take (i + 1))) (fun s : List Int × Int => LW s.1 ∧ s.1.length = a.length ∧ (s.2 = 0 ∨ s.2 = 1) ∧ lv s.1 + pw a.length * s.2 = lv a + lv b)) := by
        intro t t0 t1 ht
        have hm := Int.emod_nonneg t (show B ≠ 0 by omega)
        have hm2 := Int.emod_lt_of_pos t (show 0 < B by omega)
        have hd := Int.mul_ediv_add_emod t B
        rw [wand_low ⟨t0, by omega⟩, wsrc32 t0, wc_u32_in ⟨hm, hm2⟩, ret_bind, ret_app]
        refine ⟨by rw [h2]; simp only [List.length_cons, List.length_nil]; omega, _, rfl, hia, by show wa .i64 (i : Int) 1 = _; rw [wa_i (by omega) (by omega)]; rfl, LW.app.2 ⟨h1, LW.one.2 ⟨hm, hm2⟩⟩, by show (o ++ [_]).length = _; rw [List.length_append, h2]; rfl, by have q0 : 0 ≤ t / B := Int.ediv_nonneg t0 (by omega); have q1 : t / B < 2 := Int.ediv_lt_of_lt_mul (by omega) t1; show t / B = 0 ∨ t / B = 1; omega, ?_⟩
        show lv (o ++ [t % B]) + pw (i + 1) * (t / B) = _
        rw [lv_snoc, h2, ← ht]
        simp only [pw]
        have e3 : pw i * (B * (t / B) + t % B) = pw i * t := by rw [hd]
        have e4 : B * pw i * (t / B) = pw i * (B * (t / B)) := by grind
        rw [Int.mul_add] at e3
        omega
      have hts := take_succ hx
      rw [ret_if]
      refine ⟨fun hlb => ?_, fun hgb => ?_⟩
      · rw [ret_bind, ret_get]
        refine ⟨by omega, hlb, fun y hy => ?_⟩
        rw [Int.toNat_natCast] at hy
        have hyB := LW.get hb hy
        rw [hcx, wc_u64_in ⟨hyB.1, by omega⟩, wa_u64 (x := x) (y := c) ⟨by omega, by omega⟩, wa_u64 ⟨by omega, by omega⟩]
        refine fin _ (by omega) (by omega) ?_
        rw [hts, take_succ hy]
        have : pw i * (x + c + y) = pw i * x + pw i * c + pw i * y := by grind
        omega
      · rw [hcx, wa_u64 (x := x) (y := c) ⟨by omega, by omega⟩]
        refine fin _ (by omega) (by omega) ?_
        rw [hts, take_stay (a := b) (by omega)]
        have : pw i * (x + c) = pw i * x + pw i * c := by grind
        omega
    · have e : i = a.length := by omega
      subst e
      rw [List.take_length, take_all hl] at h4
      exact h4
  · rintro ⟨o, c⟩ ⟨h1, h2, h3, h4⟩
    simp only at h1 h2 h3 h4 ⊢
    have hc : wc .u32 c = c := wc_u32_in ⟨by omega, by unfold B; omega⟩
    have hlw : LW (o ++ [c]) := LW.app.2 ⟨h1, LW.one.2 ⟨by omega, by unfold B; omega⟩⟩
    rw [hc, ret_bind, ret_app]
    refine ⟨by rw [h2]; simp only [List.length_cons, List.length_nil]; omega, ?_⟩
    rw [trim_ok hlw (by rw [List.length_append, h2]; simp; omega), obs]
    exact ⟨_, rfl, trimL_lw hlw, trimL_tm _, by rw [trimL_lv, lv_snoc, h2]; exact h4⟩
theorem plus_ok {a b : List Int} (ha : LW a) (hb : LW b) (hn : a.length ≤ 1000) (hm : b.length ≤ 1000) : Ret (integer_plus a b) (fun r => LW r ∧ Tm r ∧ lv r = lv a + lv b) := by
  unfold integer_plus
  rw [ret_if]
  refine ⟨fun h => (plusJ_ok hb ha (by omega) hm).mono fun r hr => ⟨hr.1, hr.2.1, by omega⟩, fun h => plusJ_ok ha hb (by omega) hn⟩
end Km
/- The program's limbs: difference, machine integers, division by one limb; Reduce. -/
namespace Km
open Sx Go M Vc Lm
theorem low_borrow {v : Int} (h0 : -B ≤ v) (h1 : v < B) : ((v % 18446744073709551616) % B = v + B * (if v < 0 then 1 else 0)) ∧ ((v % 18446744073709551616) / B % 2 = if v < 0 then 1 else 0) ∧ 0 ≤ v % 18446744073709551616 ∧ v % 18446744073709551616 < 18446744073709551616 := by
  unfold B at *
  split <;> omega
theorem minus_ok {a b : List Int} (ha : LW a) (hb : LW b) (hn : a.length ≤ 1000) (hl : b.length ≤ a.length) (hv : lv b ≤ lv a) : Ret (integer_minus a b) (fun r => LW r ∧ Tm r ∧ lv r = lv a - lv b) := by
  have e : B = 4294967296 := rfl
  unfold integer_minus
  rw [ret_bind, ret_mkL]
  refine ⟨by omega, by omega, ?_⟩
  rw [Int.toNat_natCast, ret_bind]
  refine (ret_loop (Post := fun o : List Int => LW o ∧ o.length = a.length ∧ lv o = lv a - lv b) a.length (fun i (s : List Int × Int × Int) => s.2.2 = (i : Int) ∧ LW s.1 ∧ s.1.length = a.length ∧ (s.2.1 = 0 ∨ s.2.1 = 1) ∧ lv (s.1.take i) = lv (a.take i) - lv (b.take i) + pw i * s.2.1) ⟨rfl, fun x hx => by rw [List.mem_replicate] at hx; rw [hx.2]; omega, List.length_replicate .., .inl rfl, by simp [lv]⟩ ?_ (by omega)).mono ?_
  · rintro i ⟨o, c, _⟩ hi ⟨rfl, h1, h2, h3, h4⟩
    simp only at h1 h2 h3 h4
    unfold integer_minus_l3 integer_minus_j4
    simp only
    rw [ret_if]
    refine ⟨fun hlt => ?_, fun hge => ⟨_, rfl, h1, h2, ?_⟩⟩
    · have hia : i < a.length := by omega
      rw [ret_bind, ret_get]
      refine ⟨by omega, hlt, fun x hx => ?_⟩
      rw [Int.toNat_natCast] at hx
      have hxB := LW.get ha hx
      have hcx : wc .u64 x = x := wc_u64_in ⟨hxB.1, by omega⟩
      have hts := take_succ hx
      have fin : ∀ (t v : Int), t = v % 18446744073709551616 → -B ≤ v → v < B → lv (o.take i) + pw i * v = lv (a.take (i + 1)) - lv (b.take (i + 1)) → Ret ((setI o (i : Int) (wc .u32 (wand .u64 t 4294967295))).bind fun x35 => some (Sum.inl (β := List Int) (x35, wand .u64 (wsrc .u64 t 32) 1, wa .i64 (i : Int) 1))) (VQ (fun s : List Int × Int × Int => i < a.length ∧ s.2.2 = ((i + 1 : Nat) : Int) ∧ LW s.1 ∧ s.1.length = a.length ∧ (s.2.1 = 0 ∨ s.2.1 = 1) ∧ lv (s.1.take (i + 1)) = lv (a.take (i + 1)) - lv (b.take (i + 1)) + pw (i + 1) * s.2.1) (fun o : List Int => LW o ∧ o.length = a.length ∧ lv o = lv a - lv b)) := by
        intro t v ht v0 v1 hv
        obtain ⟨k1, k2, k3, k4⟩ := low_borrow v0 v1
        rw [← ht] at k1 k2 k3 k4
        have hm := Int.emod_nonneg t (show B ≠ 0 by omega)
        have hm2 := Int.emod_lt_of_pos t (show 0 < B by omega)
        have hd0 : 0 ≤ t / B := Int.ediv_nonneg k3 (by omega)
        have hd1 : t / B < 18446744073709551616 := Int.ediv_lt_of_lt_mul (by omega) (by omega)
        rw [wand_low ⟨k3, k4⟩, wsrc32 k3, wand_one ⟨hd0, hd1⟩, wc_u32_in ⟨hm, hm2⟩, k2, ret_bind, ret_set, Int.toNat_natCast]
        refine ⟨by omega, by omega, _, rfl, hia, by show wa .i64 (i : Int) 1 = _; rw [wa_i (by omega) (by omega)]; rfl, ?_, by show (o.set i _).length = _; rw [List.length_set, h2], by show (if v < 0 then (1 : Int) else 0) = 0 ∨ (if v < 0 then (1 : Int) else 0) = 1; split <;> omega, ?_⟩
        · intro y hy
          rcases List.mem_or_eq_of_mem_set hy with hy | rfl
          · exact h1 y hy
          · exact ⟨hm, hm2⟩
        · show lv ((o.set i (t % B)).take (i + 1)) = _ + pw (i + 1) * (if v < 0 then 1 else 0)
          have hs : (o.set i (t % B))[i]? = some (t % B) := by rw [List.getElem?_set_self]; omega
          rw [take_succ hs, List.take_set, List.set_eq_of_length_le (by rw [List.length_take]; omega), k1, ← hv]
          simp only [pw]
          generalize (if v < 0 then (1 : Int) else 0) = z
          grind
      rw [ret_if]
      refine ⟨fun hlb => ?_, fun hgb => ?_⟩
      · rw [ret_bind, ret_get]
        refine ⟨by omega, hlb, fun y hy => ?_⟩
        rw [Int.toNat_natCast] at hy
        have hyB := LW.get hb hy
        refine fin _ (x - c - y) ?_ (by omega) (by omega) ?_
        · rw [hcx, wc_u64_in ⟨hyB.1, by omega⟩, ws_u64, ws_u64]; omega
        · rw [hts, take_succ hy, h4]; grind
      · refine fin _ (x - c) ?_ (by omega) (by omega) ?_
        · rw [hcx, ws_u64]
        · rw [hts, take_stay (a := b) (by omega), h4]; grind
    · have ei : i = a.length := by omega
      subst ei
      rw [List.take_length, take_all hl, take_all (by omega)] at h4
      have hlt := lv_lt h1
      rw [h2] at hlt
      have hp := pw_pos a.length
      show lv o = _
      rcases h3 with rfl | rfl
      · omega
      · omega
  · rintro o ⟨h1, h2, h3⟩
    rw [trim_ok h1 (by omega), obs]
    exact ⟨_, rfl, trimL_lw h1, trimL_tm _, by rw [trimL_lv]; exact h3⟩
/-- a number of one limb at most, as a machine integer -/
theorem int_ok {r : Int} (h0 : 0 ≤ r) (h1 : r < B) {l : List Int} (hl : LW l) (ht : Tm l) (he : lv l = r) : integer_Int false l = some (r, true) := by
  have e : B = 4294967296 := rfl
  have hl2 : l = if r = 0 then [] else [r] := by
    refine tm_inj hl ?_ ht ?_ ?_
    · intro x hx; split at hx
      · simp at hx
      · simp at hx; omega
    · split
      · exact tm_nil
      · rename_i h; intro x hx; simp at hx; omega
    · rw [he]; split
      · rename_i h; rw [h]; rfl
      · simp [lv]
  refine Ret.eq ?_
  unfold integer_Int
  rw [trim_ok hl (by rw [hl2]; split <;> simp), obs, trimL_of hl ht, hl2]
  by_cases hz : r = 0
  · subst hz
    rw [if_pos rfl, if_neg (by simp), ret_bind]
    refine (ret_loop (Post := fun u : Int => u = 0) 0 (fun k (s : Int × Int) => s = (0, 0)) rfl ?_ (by omega)).mono ?_
    · rintro k _ hk rfl
      exact ⟨_, rfl, rfl⟩
    · rintro _ rfl
      exact ⟨_, rfl, rfl⟩
  · rw [if_neg hz, if_neg (by simp), ret_bind]
    refine (ret_loop (Post := fun u : Int => u = r) 1 (fun k (s : Int × Int) => s = (if k = 0 then 0 else r, (k : Int))) rfl ?_ (by omega)).mono ?_
    · rintro k _ hk rfl
      unfold integer_Int_l1
      simp only
      rw [ret_if]
      refine ⟨fun hlt => ?_, fun hge => ?_⟩
      · simp at hlt
        obtain rfl : k = 0 := by omega
        rw [ret_bind, ret_get]
        refine ⟨by omega, by simp, fun x hx => ?_⟩
        have hx : r = x := by simpa using hx
        subst hx
        have hwm : wm .i64 32 ((0 : Nat) : Int) = 0 := by rw [wm_i (by omega) (by omega)]; rfl
        have hws : wshl .u64 (wc .u64 r) 0 = some r := by
          rw [wc_u64_in ⟨h0, by omega⟩]
          unfold wshl
          rw [if_neg (by omega)]
          show some (IntKind.u64.wrap (r * 2 ^ (min (0 : Int).toNat 64))) = _
          rw [show (2 : Int) ^ (min (0 : Int).toNat 64) = 1 from rfl, Int.mul_one, IntWalk.u64_in _ ⟨h0, by omega⟩]
        rw [hwm, hws, obs]
        have hor : wor .u64 0 r = r := by
          have := wor_hi (x := 0) (y := r) ⟨by omega, by omega⟩ ⟨h0, h1⟩
          rw [Int.zero_mul, Int.zero_add] at this
          exact this
        refine ⟨_, rfl, by omega, ?_⟩
        rw [if_pos rfl, hor, if_neg (by omega), wa_i (by omega) (by omega)]
        rfl
      · simp at hge
        refine ⟨_, rfl, ?_⟩
        show (if k = 0 then (0 : Int) else r) = r
        rw [if_neg (by omega)]
    · rintro _ rfl
      rw [if_neg (by simp), if_pos (by simp; omega)]
      refine ⟨_, rfl, ?_⟩
      rw [wc_i64_in ⟨by omega, by omega⟩]
theorem len_le {l : List Int} {m : Nat} (hl : LW l) (ht : Tm l) (h : lv l < pw m) : l.length ≤ m := by
  refine Classical.byContradiction fun hc => ?_
  have hne : l ≠ [] := by rintro rfl; simp at hc
  have h5 := tm_lower hl ht hne
  have h7 := pw_mono (show m ≤ l.length - 1 by omega)
  omega
theorem tm_one {p : Int} (hp : 0 < p) : Tm [p] := by intro x hx; simp at hx; omega
theorem lw_one {p : Int} (hp : 0 < p) (hB : p < B) : LW [p] := LW.one.2 ⟨by omega, hB⟩
theorem trimL_len {l : List Int} (hl : LW l) : (trimL l).length ≤ l.length := len_le (trimL_lw hl) (trimL_tm l) (by rw [trimL_lv]; exact lv_lt hl)
/-- division by one limb -/
theorem divide1_ok {a : List Int} {p : Int} (ha : LW a) (ta : Tm a) (hn : a.length ≤ 999) (hp : 0 < p) (hB : p < B) : ∃ q r, integer_divide a [p] = some (q, r) ∧ LW q ∧ Tm q ∧ LW r ∧ Tm r ∧ lv q = lv a / p ∧ lv r = lv a % p ∧ q.length ≤ 1000 := by
  have lp : lv [p] = p := by simp [lv]
  have h0 := lv_nn ha
  unfold integer_divide
  rw [compare_ok ha (lw_one hp hB) ta (tm_one hp) (by omega) (by simp), obs, lp]
  by_cases hlt : lv a < p
  · rw [if_pos hlt, if_pos (by omega)]
    have hc : slices_Clone_uint32 a = some a := by
      unfold slices_Clone_uint32 app BIG
      rw [if_pos (by simp; omega), obs, List.nil_append]
    rw [hc, obs]
    exact ⟨[], a, rfl, by intro x hx; simp at hx, tm_nil, ha, ta, by rw [Int.ediv_eq_zero_of_lt h0 hlt]; rfl, by rw [Int.emod_eq_of_lt h0 hlt], by simp⟩
  · have hneg : ¬ (if lv a < p then (-1 : Int) else if p < lv a then 1 else 0) < 0 := by rw [if_neg hlt]; split <;> omega
    rw [if_neg hneg, if_pos (by simp)]
    have hg : getI [p] 0 = some p := rfl
    obtain ⟨q, hq, q1, q2, q3⟩ := short_ok ha (by omega) hp hB
    have hr := Int.emod_nonneg (lv a) (show p ≠ 0 by omega)
    have hr2 := Int.emod_lt_of_pos (lv a) hp
    have hlw : LW [lv a % p] := LW.one.2 ⟨hr, by omega⟩
    rw [hg, obs, hq, obs, trim_ok hlw (by simp), obs]
    refine ⟨q, _, rfl, q1, q2, trimL_lw hlw, trimL_tm _, q3, by rw [trimL_lv]; simp [lv], ?_⟩
    refine Classical.byContradiction fun hc => ?_
    have hne : q ≠ [] := by rintro rfl; simp at hc
    have h5 := tm_lower q1 q2 hne
    have h6 := lv_lt ha
    have h7 := pw_mono (show a.length ≤ q.length - 1 by omega)
    have h8 : lv a / p ≤ lv a := Int.ediv_le_self _ h0
    omega
/-- the remainder of a number of either sign -/
theorem remainder_ok {s : Bool} {a : List Int} {p : Int} (ha : LW a) (hn : a.length ≤ 900) (hp : 0 < p) (hB : p < 2147483648) : modular_remainder s a p = some ((if s = true then - lv a else lv a) % p) := by
  have e : B = 4294967296 := rfl
  refine Ret.eq ?_
  unfold modular_remainder integer_DivMod
  have hta := trimL_lw ha
  have htl : (trimL a).length ≤ 999 := by
    refine Classical.byContradiction fun hc => ?_
    have hne : trimL a ≠ [] := by intro h; rw [h] at hc; simp at hc
    have h5 := tm_lower hta (trimL_tm a) hne
    rw [trimL_lv] at h5
    have h6 := lv_lt ha
    have h7 := pw_mono (show a.length ≤ (trimL a).length - 1 by omega)
    omega
  obtain ⟨q, r, hd, q1, q2, r1, r2, q3, r3, q4⟩ := divide1_ok hta (trimL_tm a) htl hp (by omega)
  rw [trimL_lv] at q3 r3
  have h0 := lv_nn ha
  have hr := Int.emod_nonneg (lv a) (show p ≠ 0 by omega)
  have hr2 := Int.emod_lt_of_pos (lv a) hp
  have fin : ∀ (sg : Bool) (x y : List Int) (v : Int), LW x → x.length ≤ 1000000 → LW y → Tm y → lv y = v → 0 ≤ v → v < p → v = (if s = true then - lv a else lv a) % p → Ret ((integer_DivMod_j2 sg false x y).bind fun r8 => (integer_Int r8.2.2.1 r8.2.2.2.1).bind fun r16 => some r16.1) (fun y => y = (if s = true then - lv a else lv a) % p) := by
    intro sg x y v hx hxl hy ty hyv v0 v1 hv
    unfold integer_DivMod_j2
    have hb1 := big_ok (!((sg == false))) hx hxl
    have hyl : y.length ≤ 1 := by
      refine Classical.byContradiction fun hc => ?_
      have hne : y ≠ [] := by rintro rfl; simp at hc
      have h5 := tm_lower hy ty hne
      have h7 := pw_mono (show 1 ≤ y.length - 1 by omega)
      have : pw 1 = B := by simp [pw]
      omega
    have hb2 := big_ok false hy (by omega)
    rw [trimL_of hy ty] at hb2
    have hb2' : integer_big false y = some (false, y) := by
      rw [hb2]; split
      · rename_i h; rw [h]
      · rfl
    rw [hb1, obs, hb2', obs, obs]
    simp only
    rw [int_ok v0 (by omega) hy ty hyv, obs]
    exact ⟨_, rfl, hv⟩
  rw [from_ok hp (by omega), obs]
  simp only
  rw [trim_ok (lw_one hp (by omega)) (by simp), trimL_of (lw_one hp (by omega)) (tm_one hp), obs, if_neg (by simp), trim_ok ha (by omega), obs, hd, obs]
  simp only
  by_cases hc : s = true ∧ 0 < r.length
  · obtain ⟨hs, hrl⟩ := hc
    subst hs
    rw [if_pos (by simp; omega)]
    have hrne : r ≠ [] := by rintro rfl; simp at hrl
    have hr0 : lv r ≠ 0 := fun h => hrne ((lv_zero r1 r2).1 h)
    have hlp : lv [p] = p := by simp [lv]
    have hrl1 : r.length ≤ 1 := by
      refine Classical.byContradiction fun hc => ?_
      have h5 := tm_lower r1 r2 hrne
      have h7 := pw_mono (show 1 ≤ r.length - 1 by omega)
      have : pw 1 = B := by simp [pw]
      omega
    obtain ⟨x, hx, x1, x2, x3⟩ := plus_ok q1 (b := [1]) (LW.one.2 ⟨by omega, by omega⟩) q4 (by simp)
    obtain ⟨y, hy, y1, y2, y3⟩ := minus_ok (lw_one hp (by omega)) r1 (by simp) (by simpa using hrl1) (by omega)
    have hE : ((integer_plus q [1]).bind fun r36 => (integer_minus [p] r).bind fun r38 => integer_DivMod_j2 true false r36 r38) = integer_DivMod_j2 true false x y := by rw [hx, obs, hy, obs]
    rw [hE]
    have hxl : x.length ≤ 1000 + 1 := by
      refine len_le x1 x2 ?_
      have := lv_lt q1
      have h9 := pw_mono q4
      have h8 := pw_pos 1000
      rw [x3]
      show lv q + lv [1] < B * pw 1000
      have : lv [1] = 1 := by simp [lv]
      rw [e]; omega
    refine fin true x y (p - lv a % p) x1 (by omega) y1 y2 (by rw [y3, hlp, r3]) (by omega) (by omega) ?_
    rw [if_pos rfl]
    have hm := Int.mul_ediv_add_emod (lv a) p
    have h8 : - lv a = (p - lv a % p) + p * (-(lv a / p) - 1) := by rw [Int.mul_sub, Int.mul_neg]; omega
    rw [h8, Int.add_mul_emod_self_left]
    exact (Int.emod_eq_of_lt (a := p - lv a % p) (b := p) (by omega) (by omega)).symm
  · rw [if_neg (by simp only [Bool.and_eq_true, decide_eq_true_eq]; rintro ⟨h1, h2⟩; exact hc ⟨h1, by omega⟩)]
    refine fin s q r (lv a % p) q1 (by omega) r1 r2 r3 hr hr2 ?_
    by_cases hs : s = true
    · have hr0 : r = [] := List.eq_nil_of_length_eq_zero (Nat.eq_zero_of_not_pos fun h => hc ⟨hs, h⟩)
      have hz : lv a % p = 0 := by rw [← r3, hr0]; rfl
      rw [if_pos hs, hz, Int.neg_emod, if_pos (Int.dvd_of_emod_eq_zero hz)]
    · rw [if_neg hs]
end Km
/- Remainders, powers, inverses, rows and tables: what the program's small loops compute. -/
namespace Km
open Sx Go M Vc Dt
/-- a loop that comes to an end -/
theorem ret_loopM {τ ρ : Type} {step : τ → Option (τ ⊕ ρ)} {Post : ρ → Prop} (I : τ → Prop) (μ : τ → Nat) {s : τ} (h0 : I s) (hμ : μ s < 1099511627776)
    (h : ∀ t, I t → Ret (step t) (VQ (fun t' => I t' ∧ μ t' < μ t) Post)) : Ret (loop step s) Post := by
  have key : ∀ (fuel : Nat) (t : τ), μ t < fuel → I t → Ret (loopN step fuel t) Post := by
    intro fuel
    induction fuel with
    | zero => intro t h1; omega
    | succ n ih =>
      intro t h1 h2
      obtain ⟨x, hx, h3⟩ := h t h2
      cases x with
      | inr r => exact ⟨r, by simp [loopN, hx], h3⟩
      | inl t' =>
        obtain ⟨h4, h5⟩ := h3
        obtain ⟨y, hy, hp⟩ := ih t' (by omega) h4
        exact ⟨y, by simp [loopN, hx, hy], hp⟩
  exact key FUEL s hμ h0
/-- a modulus -/
structure PP (p : Int) : Prop where
  two : 2 ≤ p
  max : p ≤ 2147483647
  prm : Nt.Prm p.toNat
theorem tmod_nn {x p : Int} (h : 0 ≤ x) : x.tmod p = x % p := Int.tmod_eq_emod_of_nonneg h
theorem wr_nn {x p : Int} (h : 0 ≤ x) (hp : 0 < p) : wr x p = some (x % p) := by
  unfold wr; rw [if_neg (by omega), tmod_nn h]
theorem mod_rng {p : Int} (x : Int) (hp : 0 < p) : 0 ≤ x % p ∧ x % p < p := ⟨Int.emod_nonneg _ (by omega), Int.emod_lt_of_pos _ hp⟩
theorem emod_of {a p z k : Int} (h : a = z + p * k) (h0 : 0 ≤ z) (h1 : z < p) : z = a % p := by rw [h, Int.add_mul_emod_self_left, Int.emod_eq_of_lt h0 h1]
theorem mod_ok {a p : Int} (hp : 0 < p) (hm : p ≤ 2147483647) : modular_mod a p = some (a % p) := by
  unfold modular_mod wr modular_mod_j1
  rw [if_neg (by omega), obs]
  have h1 := Int.lt_tmod_of_pos a hp
  have h2 := Int.tmod_lt_of_pos a hp
  have h3 := Int.mul_tdiv_add_tmod a p
  split
  · rw [wa_i (by omega) (by omega)]
    refine congrArg some (emod_of (k := a.tdiv p - 1) ?_ (by omega) (by omega))
    rw [Int.mul_sub]; omega
  · exact congrArg some (emod_of (k := a.tdiv p) (by omega) (by omega) h2)
theorem mul_rng {p x y : Int} (hm : p ≤ 2147483647) (hx : 0 ≤ x ∧ x < p) (hy : 0 ≤ y ∧ y < p) : 0 ≤ x * y ∧ x * y ≤ 4611686014132420609 :=
  ⟨Int.mul_nonneg hx.1 hy.1, by have := Int.mul_le_mul (show x ≤ 2147483647 by omega) (show y ≤ 2147483647 by omega) hy.1 (by omega); omega⟩
theorem wmr {p x y : Int} (hm : p ≤ 2147483647) (hx : 0 ≤ x ∧ x < p) (hy : 0 ≤ y ∧ y < p) : wr (wm .i64 x y) p = some (x * y % p) := by
  have := mul_rng hm hx hy
  rw [wm_i (by omega) (by omega), wr_nn this.1 (by omega)]
/-- the binary power -/
theorem raise_ok {p a : Nat} (hp : 1 < p) (hm : p ≤ 2147483647) (ha : a < p) {n : Nat} (hn : n < 1099511627776) : modular_raise (a : Int) (n : Int) (p : Int) = some ((a ^ n % p : Nat) : Int) := by
  refine Ret.eq ?_
  unfold modular_raise
  rw [ret_bind]
  refine (ret_loopM (Post := fun o => o = ((a ^ n % p : Nat) : Int)) (fun (s : Int × Int × Int) => ∃ A m O : Nat, s = ((A : Int), (m : Int), (O : Int)) ∧ A < p ∧ O < p ∧ m < 1099511627776 ∧ O * A ^ m % p = a ^ n % p) (fun s => s.2.1.toNat) ⟨a, n, 1, rfl, ha, hp, hn, by rw [Nat.one_mul]⟩ (by show ((n : Int)).toNat < _; omega) ?_).mono ?_
  · rintro _ ⟨A, m, O, rfl, hA, hO, hm2, hI⟩
    unfold modular_raise_l3
    simp only
    have hAA := mul_rng (p := p) (x := A) (y := A) (by omega) ⟨by omega, by omega⟩ ⟨by omega, by omega⟩
    have hOA := mul_rng (p := p) (x := O) (y := A) (by omega) ⟨by omega, by omega⟩ ⟨by omega, by omega⟩
    have e1 : wr (wm .i64 (A : Int) (A : Int)) (p : Int) = some ((A * A % p : Nat) : Int) := by rw [wmr (by omega) ⟨by omega, by omega⟩ ⟨by omega, by omega⟩]; simp
    have e2 : wr (wm .i64 (O : Int) (A : Int)) (p : Int) = some ((O * A % p : Nat) : Int) := by rw [wmr (by omega) ⟨by omega, by omega⟩ ⟨by omega, by omega⟩]; simp
    have e3 : wrc (m : Int) 2 = ((m % 2 : Nat) : Int) := by show Int.tmod (m : Int) 2 = _; rw [tmod_nn (by omega)]; omega
    have e4 : wqc .i64 (m : Int) 2 = ((m / 2 : Nat) : Int) := by
      show IntKind.wrap .i64 (Int.tdiv (m : Int) 2) = _
      rw [Int.tdiv_eq_ediv_of_nonneg (by omega), IntWalk.i64_in _ ⟨by omega, by omega⟩]; omega
    have hlt : ∀ z : Nat, z % p < p := fun z => Nat.mod_lt _ (by omega)
    rw [ret_if]
    refine ⟨fun h0 => ?_, fun h0 => ?_⟩
    · rw [e3, ret_if]
      refine ⟨fun h1 => ?_, fun h1 => ?_⟩
      · rw [e2, obs]
        unfold modular_raise_j4
        rw [e1, obs, e4]
        refine ⟨_, rfl, ⟨_, _, _, rfl, hlt _, hlt _, by omega, ?_⟩, by show ((m / 2 : Nat) : Int).toNat < ((m : Int)).toNat; omega⟩
        rw [Nt.pow_odd (by omega)]; exact hI
      · unfold modular_raise_j4
        rw [e1, obs, e4]
        refine ⟨_, rfl, ⟨_, _, _, rfl, hlt _, hO, by omega, ?_⟩, by show ((m / 2 : Nat) : Int).toNat < ((m : Int)).toNat; omega⟩
        rw [Nt.pow_even (by omega)]; exact hI
    · refine ⟨_, rfl, ?_⟩
      obtain rfl : m = 0 := by omega
      rw [Nat.pow_zero, Nat.mul_one, Nat.mod_eq_of_lt hO] at hI
      show (O : Int) = _
      rw [hI]
  · rintro _ rfl
    exact ⟨_, rfl, rfl⟩
theorem inverse_ok {p a : Int} (hp : PP p) (ha : 0 < a ∧ a < p) : ∃ f, modular_inverse a p = some f ∧ (0 ≤ f ∧ f < p) ∧ a * f % p = 1 := by
  have h2 := hp.two
  have h3 := hp.max
  obtain ⟨P, rfl⟩ := Int.eq_ofNat_of_zero_le (show 0 ≤ p by omega)
  obtain ⟨A, rfl⟩ := Int.eq_ofNat_of_zero_le (show 0 ≤ a by omega)
  refine ⟨((A ^ (P - 2) % P : Nat) : Int), ?_, ⟨by omega, ?_⟩, ?_⟩
  · unfold modular_inverse
    rw [ws_i (by omega) (by omega), show (P : Int) - 2 = ((P - 2 : Nat) : Int) by omega, raise_ok (by omega) (by omega) (by omega) (by omega), obs]
  · have := Nat.mod_lt (A ^ (P - 2)) (show P > 0 by omega); omega
  · have := Nt.inv_ok hp.prm (a := A) (by omega) (by simpa using (show A < P by omega))
    rw [Int.toNat_natCast] at this
    exact_mod_cast this
/-- a row told by a function -/
def Ln (l : List Int) (w : Nat) (f : Nat → Int) : Prop := l.length = w ∧ ∀ c, c < w → l[c]? = some (f c)
/-- a table told by a matrix -/
def Tb (T : List (List Int)) (n w : Nat) (A : Mx) : Prop := T.length = n ∧ ∀ r, r < n → ∃ l, T[r]? = some l ∧ Ln l w (A r)
theorem Ln.congr {l : List Int} {w : Nat} {f g : Nat → Int} (h : Ln l w f) (e : ∀ c, c < w → f c = g c) : Ln l w g := ⟨h.1, fun c hc => by rw [h.2 c hc, e c hc]⟩
theorem Ln.set {l : List Int} {w : Nat} {f : Nat → Int} (h : Ln l w f) {c : Nat} (hc : c < w) (x : Int) : Ln (l.set c x) w (fun j => if j = c then x else f j) := by
  refine ⟨by rw [List.length_set]; exact h.1, fun j hj => ?_⟩
  rw [List.getElem?_set]
  by_cases e : c = j
  · subst e
    show _ = some (if c = c then x else f c)
    rw [if_pos rfl, if_pos (by rw [h.1]; exact hc), if_pos rfl]
  · show _ = some (if j = c then x else f j)
    rw [if_neg e, if_neg (Ne.symm e)]; exact h.2 j hj
theorem Tb.congr {T : List (List Int)} {n w : Nat} {A B : Mx} (h : Tb T n w A) (e : ∀ r c, r < n → c < w → A r c = B r c) : Tb T n w B := ⟨h.1, fun r hr => by obtain ⟨l, h1, h2⟩ := h.2 r hr; exact ⟨l, h1, h2.congr fun c hc => e r c hr hc⟩⟩
theorem Tb.set {T : List (List Int)} {n w : Nat} {A : Mx} (h : Tb T n w A) {k : Nat} (hk : k < n) {l : List Int} {g : Nat → Int} (hl : Ln l w g) : Tb (T.set k l) n w (up A k g) := by
  refine ⟨by rw [List.length_set]; exact h.1, fun r hr => ?_⟩
  rw [List.getElem?_set]
  by_cases e : k = r
  · subst e; rw [if_pos rfl, if_pos (by rw [h.1]; exact hk)]; exact ⟨l, rfl, hl.congr fun c _ => up_in.symm⟩
  · rw [if_neg e]; obtain ⟨m, h1, h2⟩ := h.2 r hr; exact ⟨m, h1, h2.congr fun c _ => (up_out fun e' => e e'.symm).symm⟩
theorem Ln.get {l : List Int} {w : Nat} {f : Nat → Int} (h : Ln l w f) {c : Nat} (hc : c < w) {Q : Int → Prop} (hQ : Q (f c)) : Ret (getI l (c : Int)) Q := by
  rw [ret_get]
  refine ⟨by omega, by rw [h.1]; omega, fun x hx => ?_⟩
  rw [Int.toNat_natCast, h.2 c hc] at hx
  obtain rfl := Option.some.inj hx
  exact hQ
theorem Tb.get {T : List (List Int)} {n w : Nat} {A : Mx} (h : Tb T n w A) {r : Nat} (hr : r < n) {Q : List Int → Prop} (hQ : ∀ l, T[r]? = some l → Ln l w (A r) → Q l) : Ret (getI T (r : Int)) Q := by
  rw [ret_get]
  refine ⟨by omega, by rw [h.1]; omega, fun x hx => ?_⟩
  rw [Int.toNat_natCast] at hx
  obtain ⟨l, h1, h2⟩ := h.2 r hr
  rw [h1] at hx
  obtain rfl := Option.some.inj hx
  exact hQ l h1 h2
end Km
/- Signed numbers of limbs: values, normal form, lengths. -/
namespace Km
open Sx Go M Vc Lm
def sv (s : Bool) (l : List Int) : Int := if s = true then - lv l else lv l
def Bg (v : Int) (s : Bool) (l : List Int) : Prop := LW l ∧ Tm l ∧ sv s l = v ∧ (s = true → l ≠ [])
theorem sv_trim (s : Bool) (l : List Int) : sv s (trimL l) = sv s l := by unfold sv; rw [trimL_lv]
theorem sv_not (s : Bool) (l : List Int) : sv (!s) l = - sv s l := by unfold sv; cases s <;> simp
theorem Bg.pos {v : Int} {s : Bool} {l : List Int} (h : Bg v s l) (hs : s = true) : 0 < lv l := by
  have h1 := lv_nn h.1
  have h2 : lv l ≠ 0 := fun h0 => h.2.2.2 hs ((lv_zero h.1 h.2.1).1 h0)
  omega
theorem Bg.neg {v : Int} {s : Bool} {l : List Int} (h : Bg v s l) : s = true ↔ v < 0 := by
  have h1 := lv_nn h.1
  have h3 := h.2.2.1
  constructor
  · intro hs
    have := h.pos hs
    unfold sv at h3; rw [if_pos hs] at h3; omega
  · intro hv
    refine Classical.byContradiction fun hs => ?_
    unfold sv at h3; rw [if_neg hs] at h3; omega
theorem Bg.abs {v : Int} {s : Bool} {l : List Int} (h : Bg v s l) : lv l = if v < 0 then - v else v := by
  have h3 := h.2.2.1
  by_cases hs : s = true
  · rw [if_pos (h.neg.1 hs)]; unfold sv at h3; rw [if_pos hs] at h3; omega
  · rw [if_neg fun hv => hs (h.neg.2 hv)]; unfold sv at h3; rw [if_neg hs] at h3; exact h3
theorem Bg.uniq {v : Int} {s s' : Bool} {l l' : List Int} (h : Bg v s l) (h' : Bg v s' l') : s = s' ∧ l = l' := by
  refine ⟨?_, tm_inj h.1 h'.1 h.2.1 h'.2.1 (h.abs.trans h'.abs.symm)⟩
  have e : s = true ↔ s' = true := h.neg.trans h'.neg.symm
  cases s <;> cases s' <;> simp_all
theorem Bg.len {v : Int} {s : Bool} {l : List Int} (h : Bg v s l) {m : Nat} (h1 : - pw m < v) (h2 : v < pw m) : l.length ≤ m := by
  refine len_le h.1 h.2.1 ?_
  rw [h.abs]; split <;> omega
theorem Bg.of {s : Bool} {l : List Int} (hl : LW l) (ht : Tm l) (hs : s = true → l ≠ []) : Bg (sv s l) s l := ⟨hl, ht, rfl, hs⟩
theorem Bg.cast {v w : Int} {s : Bool} {l : List Int} (h : Bg v s l) (e : v = w) : Bg w s l := e ▸ h
theorem bg_zero : Bg 0 false [] := ⟨by intro x hx; simp at hx, tm_nil, rfl, by simp⟩
theorem Bg.sv {v : Int} {s : Bool} {l : List Int} (h : Bg v s l) : sv s l = v := h.2.2.1
theorem lv_set {l : List Int} {k : Nat} {x y : Int} (hx : l[k]? = some x) : lv (l.set k y) = lv l + pw k * (y - x) := by
  have hlt := (List.getElem?_eq_some_iff.1 hx).1
  have hy : (l.set k y)[k]? = some y := by rw [List.getElem?_set_self hlt]
  rw [split_at hx, split_at hy, List.take_set, List.set_eq_of_length_le (by rw [List.length_take]; omega), List.drop_set_of_lt (by omega)]
  grind
theorem lw_set {l : List Int} (h : LW l) {k : Nat} {y : Int} (hy : 0 ≤ y ∧ y < B) : LW (l.set k y) := by
  intro z hz
  rcases List.mem_or_eq_of_mem_set hz with hz | rfl
  · exact h z hz
  · exact hy
theorem lw_zeros (n : Nat) : LW (List.replicate n 0) := fun x hx => by rw [List.mem_replicate] at hx; rw [hx.2]; unfold B; omega
theorem trim_len {l : List Int} (hl : LW l) : (trimL l).length ≤ l.length := trimL_len hl
/-- the normal form of any number -/
theorem Bg.norm {s : Bool} {l : List Int} (hl : LW l) : Bg (Km.sv s l) (if trimL l = [] then false else s) (trimL l) := by
  refine ⟨trimL_lw hl, trimL_tm l, ?_, ?_⟩
  · split
    · rename_i h
      have h0 : lv l = 0 := by rw [← trimL_lv, h]; rfl
      unfold Km.sv
      rw [if_neg (by simp), trimL_lv, h0]; split <;> simp
    · exact sv_trim s l
  · split
    · intro h; simp at h
    · rename_i h; exact fun _ => h
theorem big_bg {l : List Int} (s : Bool) (hl : LW l) (hn : l.length ≤ 1000000) : Ret (integer_big s l) (fun r => Bg (sv s l) r.1 r.2) := by
  rw [big_ok s hl hn]
  have h := Bg.norm (s := s) hl
  split
  · rename_i h0
    rw [if_pos h0, h0] at h
    exact ⟨_, rfl, h⟩
  · rename_i h0
    rw [if_neg h0] at h
    exact ⟨_, rfl, h⟩
end Km
/- Signed numbers of limbs: the program's products, sums, differences, comparisons. -/
namespace Km
open Sx Go M Vc Lm
/-- within a row of the product -/
def MI (a b : List Int) (i j : Nat) (x : Int) (out : List Int) (c : Int) : Prop :=
  LW out ∧ out.length = a.length + b.length ∧ (0 ≤ c ∧ c < B) ∧ lv out + pw (i + j) * c = lv (a.take i) * lv b + pw i * (x * lv (b.take j)) ∧ out.drop (i + b.length) = List.replicate (a.length - i) 0
/-- between two rows of the product -/
def MO (a b : List Int) (i : Nat) (out : List Int) : Prop :=
  LW out ∧ out.length = a.length + b.length ∧ lv out = lv (a.take i) * lv b ∧ out.drop (i + b.length) = List.replicate (a.length - i) 0
theorem MO.start (a b : List Int) : MO a b 0 (List.replicate (a.length + b.length) 0) := by
  refine ⟨lw_zeros _, List.length_replicate .., ?_, ?_⟩
  · rw [lv_zeros, List.take_zero]; simp [lv]
  · rw [List.drop_replicate, Nat.sub_zero]; congr 1; omega
theorem MO.row {a b : List Int} {i : Nat} {out : List Int} (h : MO a b i out) (x : Int) : MI a b i 0 x out 0 :=
  ⟨h.1, h.2.1, ⟨by omega, by unfold B; omega⟩, by rw [List.take_zero]; simp only [lv, Int.mul_zero, Int.add_zero]; exact h.2.2.1, h.2.2.2⟩
theorem MI.step {a b : List Int} {i j : Nat} {x c y o : Int} {out : List Int} (h : MI a b i j x out c) (hx : 0 ≤ x ∧ x < B) (hb : LW b) (hy : b[j]? = some y) (ho : out[i + j]? = some o) :
    (0 ≤ x * y ∧ 0 ≤ o ∧ 0 ≤ y ∧ y < B ∧ o < B ∧ x * y + o + c < 18446744073709551616) ∧ MI a b i (j + 1) x (out.set (i + j) ((x * y + o + c) % B)) ((x * y + o + c) / B) := by
  obtain ⟨h1, h2, h3, h4, h5⟩ := h
  have e : B = 4294967296 := rfl
  have hyB := LW.get hb hy
  have hoB := LW.get h1 ho
  have hjl := (List.getElem?_eq_some_iff.1 hy).1
  have hxy0 := Int.mul_nonneg hx.1 hyB.1
  have hxy : x * y ≤ 4294967295 * 4294967295 := Int.mul_le_mul (by omega) (by omega) hyB.1 (by omega)
  have hm := Int.emod_nonneg (x * y + o + c) (show B ≠ 0 by omega)
  have hm2 := Int.emod_lt_of_pos (x * y + o + c) (show 0 < B by omega)
  have hd := Int.mul_ediv_add_emod (x * y + o + c) B
  have hq0 : 0 ≤ (x * y + o + c) / B := Int.ediv_nonneg (by omega) (by omega)
  have hq1 : (x * y + o + c) / B < B := Int.ediv_lt_of_lt_mul (by omega) (by rw [e]; omega)
  refine ⟨⟨hxy0, hoB.1, hyB.1, hyB.2, hoB.2, by omega⟩, lw_set h1 ⟨hm, hm2⟩, by rw [List.length_set, h2], ⟨hq0, hq1⟩, ?_, ?_⟩
  · rw [lv_set ho, take_succ hy, show i + (j + 1) = (i + j) + 1 from rfl]
    simp only [pw]
    have hp : pw (i + j) = pw i * pw j := pw_add i j
    generalize (x * y + o + c) / B = q at hd ⊢
    generalize hr : (x * y + o + c) % B = r at hd ⊢
    have e1 : lv out + pw (i + j) * (r - o) + B * pw (i + j) * q = lv out + pw (i + j) * ((B * q + r) - o) := by grind
    rw [e1, hd]
    have e2 : pw i * (x * (lv (b.take j) + pw j * y)) = pw i * (x * lv (b.take j)) + (pw i * pw j) * (x * y) := by grind
    rw [e2, ← hp]
    have e3 : pw (i + j) * (x * y + o + c - o) = pw (i + j) * (x * y) + pw (i + j) * c := by grind
    rw [e3]
    omega
  · rw [List.drop_set_of_lt (by omega)]; exact h5
theorem MI.done {a b : List Int} {i : Nat} {x c : Int} {out : List Int} (h : MI a b i b.length x out c) (hx : a[i]? = some x) : i + b.length < out.length ∧ MO a b (i + 1) (out.set (i + b.length) c) := by
  obtain ⟨h1, h2, h3, h4, h5⟩ := h
  have hil := (List.getElem?_eq_some_iff.1 hx).1
  have hz : out[i + b.length]? = some 0 := by
    have e1 : (out.drop (i + b.length))[0]? = out[i + b.length]? := by rw [List.getElem?_drop]; rfl
    rw [← e1, h5, List.getElem?_replicate, if_pos (by omega)]
  refine ⟨by omega, lw_set h1 h3, by rw [List.length_set, h2], ?_, ?_⟩
  · rw [lv_set hz, take_succ hx, Int.sub_zero]
    rw [List.take_length] at h4
    have e1 : (lv (a.take i) + pw i * x) * lv b = lv (a.take i) * lv b + pw i * (x * lv b) := by grind
    rw [e1, ← h4]
  · rw [show i + 1 + b.length = (i + b.length) + 1 by omega, List.drop_set_of_lt (by omega), ← List.drop_drop, h5, List.drop_replicate]
    congr 1
theorem times_ok {a b : List Int} (ha : LW a) (hb : LW b) (hn : a.length ≤ 400) (hm : b.length ≤ 400) : Ret (integer_times a b) (fun r => LW r ∧ Tm r ∧ lv r = lv a * lv b) := by
  unfold integer_times
  rw [ret_if]
  refine ⟨fun hz => ⟨_, rfl, by intro x hx; simp at hx, tm_nil, ?_⟩, fun hz => ?_⟩
  · simp only [Bool.or_eq_true, decide_eq_true_eq] at hz
    rcases hz with hz | hz
    · rw [show a = [] from List.eq_nil_of_length_eq_zero (by omega)]; simp [lv]
    · rw [show b = [] from List.eq_nil_of_length_eq_zero (by omega)]; simp [lv]
  rw [wa_i (by omega) (by omega), ret_bind, ret_mkL]
  refine ⟨by omega, by omega, ?_⟩
  rw [show ((a.length : Int) + (b.length : Int)).toNat = a.length + b.length by omega, ret_bind]
  refine (ret_loop (Post := fun o => MO a b a.length o) a.length (fun i (s : List Int × Int) => s.2 = (i : Int) ∧ MO a b i s.1) ⟨rfl, MO.start a b⟩ ?_ (by omega)).mono ?_
  · rintro i ⟨o, _⟩ hi ⟨rfl, hO⟩
    simp only at hO
    unfold integer_times_l4
    simp only
    rw [ret_if]
    refine ⟨fun hlt => ?_, fun hge => ⟨_, rfl, by have e : i = a.length := (by omega); subst e; exact hO⟩⟩
    rw [ret_bind, ret_get]
    refine ⟨by omega, hlt, fun x hx => ?_⟩
    rw [Int.toNat_natCast] at hx
    have hxB := LW.get ha hx
    rw [ret_bind]
    refine (ret_loop (Post := fun s : List Int × Int => MI a b i b.length x s.1 s.2) b.length (fun j (s : List Int × Int × Int) => s.2.2 = (j : Int) ∧ MI a b i j x s.1 s.2.1) ⟨rfl, hO.row x⟩ ?_ (by omega)).mono ?_
    · rintro j ⟨o, c, _⟩ hj ⟨rfl, hI⟩
      simp only at hI
      unfold integer_times_l5
      simp only
      rw [ret_if]
      refine ⟨fun hjl => ?_, fun hge => ⟨_, rfl, by have e : j = b.length := (by omega); subst e; exact hI⟩⟩
      have ho1 := hI.2.1
      rw [ret_bind, ret_get]
      refine ⟨by omega, hjl, fun y hy => ?_⟩
      rw [Int.toNat_natCast] at hy
      rw [wa_i (x := (i : Int)) (y := (j : Int)) (by omega) (by omega), ret_bind, ret_get]
      refine ⟨by omega, by omega, fun z hz => ?_⟩
      rw [show ((i : Int) + (j : Int)).toNat = i + j by omega] at hz
      obtain ⟨⟨t1, t2, t3, t4, t5, t6⟩, hN⟩ := hI.step hxB hb hy hz
      have hc := hI.2.2.1
      have e : B = 4294967296 := rfl
      have et : wa .u64 (wa .u64 (wm .u64 (wc .u64 x) (wc .u64 y)) (wc .u64 z)) c = x * y + z + c := by
        rw [wc_u64_in (x := x) ⟨hxB.1, by omega⟩, wc_u64_in (x := y) ⟨t3, by omega⟩, wc_u64_in (x := z) ⟨t2, by omega⟩, wm_u64 ⟨t1, by omega⟩, wa_u64 (x := x * y) (y := z) ⟨by omega, by omega⟩, wa_u64 ⟨by omega, by omega⟩]
      have hmm := Int.emod_nonneg (x * y + z + c) (show B ≠ 0 by omega)
      have hmm2 := Int.emod_lt_of_pos (x * y + z + c) (show 0 < B by omega)
      rw [et, wand_low ⟨by omega, t6⟩, wsrc32 (by omega), wc_u32_in ⟨hmm, hmm2⟩, ret_bind, ret_set]
      refine ⟨by omega, by omega, _, rfl, by omega, by show wa .i64 (j : Int) 1 = _; rw [wa_i (by omega) (by omega)]; rfl, ?_⟩
      rw [show ((i : Int) + (j : Int)).toNat = i + j by omega]
      exact hN
    · rintro ⟨o, c⟩ hI
      simp only at hI ⊢
      obtain ⟨hl, hN⟩ := hI.done hx
      have ho1 := hI.2.1
      rw [wa_i (x := (i : Int)) (y := (b.length : Int)) (by omega) (by omega), wc_u32_in hI.2.2.1, ret_bind, ret_set]
      refine ⟨by omega, by omega, _, rfl, by omega, by show wa .i64 (i : Int) 1 = _; rw [wa_i (by omega) (by omega)]; rfl, ?_⟩
      rw [show ((i : Int) + (b.length : Int)).toNat = i + b.length by omega]
      exact hN
  · rintro o ⟨h1, h2, h3, h4⟩
    rw [List.take_length] at h3
    rw [trim_ok h1 (by omega), obs]
    exact ⟨_, rfl, trimL_lw h1, trimL_tm _, by rw [trimL_lv]; exact h3⟩
theorem sv_neg_iff (s : Bool) (l : List Int) : sv s l = if s = true then - lv l else lv l := rfl
theorem from_bg {n : Int} (h0 : -9223372036854775808 ≤ n) (h1 : n < 9223372036854775808) : Ret (integer_FromInt n) (fun r => Bg n r.1 r.2) := by
  have e : B = 4294967296 := rfl
  have key : ∀ u : Int, 0 ≤ u → u < 18446744073709551616 → (if n < 0 then - u else u) = n → Ret (integer_FromInt_j1 n u) (fun r => Bg n r.1 r.2) := by
    intro u u0 u1 hu
    unfold integer_FromInt_j1
    have hm := Int.emod_nonneg u (show B ≠ 0 by omega)
    have hm2 := Int.emod_lt_of_pos u (show 0 < B by omega)
    have hd0 : 0 ≤ u / B := Int.ediv_nonneg u0 (by omega)
    have hd1 : u / B < B := Int.ediv_lt_of_lt_mul (by omega) (by rw [e]; omega)
    have hd := Int.mul_ediv_add_emod u B
    rw [wand_low ⟨u0, u1⟩, wsrc32 u0, wc_u32_in ⟨hm, hm2⟩, wc_u32_in ⟨hd0, hd1⟩, ret_bind]
    have hl : LW [u % B, u / B] := by
      intro x hx
      simp only [List.mem_cons, List.not_mem_nil, or_false] at hx
      rcases hx with rfl | rfl
      · exact ⟨hm, hm2⟩
      · exact ⟨hd0, hd1⟩
    refine (big_bg (decide (n < 0)) hl (by simp)).mono fun r hr => ⟨_, rfl, hr.cast ?_⟩
    have hv : lv [u % B, u / B] = u := by simp only [lv, Int.mul_zero, Int.add_zero]; omega
    unfold sv
    rw [hv]
    simpa using hu
  unfold integer_FromInt
  rw [ret_if]
  refine ⟨fun hneg => ?_, fun hpos => ?_⟩
  · have e3 : wneg .u64 (wc .u64 n) = - n := by rw [wc_u64]; unfold wneg; rw [IntKind.wrap_u64]; omega
    rw [e3]
    exact key (- n) (by omega) (by omega) (by rw [if_pos hneg]; omega)
  · rw [wc_u64_in ⟨by omega, by omega⟩]
    exact key n (by omega) (by omega) (by rw [if_neg hpos])
theorem lt_pw {l : List Int} (hl : LW l) {m : Nat} (h : l.length ≤ m) : lv l < pw m := by
  have h1 := lv_lt hl
  have h2 := pw_mono h
  omega
theorem mul_bg {s t : Bool} {a b : List Int} (ha : LW a) (hb : LW b) (hn : a.length ≤ 400) (hm : b.length ≤ 400) : Ret (integer_Mul s a t b) (fun r => Bg (sv s a * sv t b) r.1 r.2) := by
  unfold integer_Mul
  rw [trim_ok ha (by omega), obs, trim_ok hb (by omega), obs, ret_bind]
  have la := trim_len ha
  have lb := trim_len hb
  refine (times_ok (trimL_lw ha) (trimL_lw hb) (by omega) (by omega)).mono ?_
  rintro r ⟨r1, r2, r3⟩
  rw [trimL_lv, trimL_lv] at r3
  have hlen : r.length ≤ 800 := by
    refine len_le r1 r2 ?_
    have h1 := lt_pw ha hn
    have h2 := lt_pw hb hm
    have h3 := lv_nn ha
    have h4 := lv_nn hb
    rw [r3, show (800 : Nat) = 400 + 400 from rfl, pw_add]
    have h5 : lv a * lv b ≤ lv a * pw 400 := Int.mul_le_mul_of_nonneg_left (by omega) h3
    have h6 : lv a * pw 400 < pw 400 * pw 400 := Int.mul_lt_mul_of_pos_right h1 (pw_pos _)
    omega
  rw [ret_bind]
  refine (big_bg (!(s == t)) r1 (by omega)).mono fun q hq => ⟨_, rfl, hq.cast ?_⟩
  unfold sv
  rw [r3]
  cases s <;> cases t <;> simp <;> grind
theorem add_bg {s t : Bool} {a b : List Int} (ha : LW a) (hb : LW b) (hn : a.length ≤ 900) (hm : b.length ≤ 900) : Ret (integer_Add s a t b) (fun r => Bg (sv s a + sv t b) r.1 r.2) := by
  unfold integer_Add
  rw [trim_ok ha (by omega), obs, trim_ok hb (by omega), obs]
  have la := trim_len ha
  have lb := trim_len hb
  have ta := trimL_tm a
  have tb := trimL_tm b
  have wa' := trimL_lw ha
  have wb' := trimL_lw hb
  have h1 := lt_pw ha hn
  have h2 := lt_pw hb hm
  have h3 := lv_nn ha
  have h4 := lv_nn hb
  have hp : 2 * pw 900 ≤ pw 901 := by
    have := pw_pos 900
    show 2 * pw 900 ≤ B * pw 900
    unfold B; omega
  rw [ret_if]
  refine ⟨fun he => ?_, fun hne => ?_⟩
  · obtain rfl : s = t := by simpa using he
    rw [ret_bind]
    refine (plus_ok wa' wb' (by omega) (by omega)).mono ?_
    rintro r ⟨r1, r2, r3⟩
    rw [trimL_lv, trimL_lv] at r3
    have hlen : r.length ≤ 901 := len_le r1 r2 (by omega)
    rw [ret_bind]
    refine (big_bg s r1 (by omega)).mono fun q hq => ⟨_, rfl, hq.cast ?_⟩
    unfold sv
    rw [r3]
    cases s <;> simp <;> omega
  · have hst : t = !s := by cases s <;> cases t <;> simp_all
    subst hst
    rw [compare_ok wa' wb' ta tb (by omega) (by omega), obs, trimL_lv, trimL_lv, ret_if]
    refine ⟨fun hge => ?_, fun hlt => ?_⟩
    · have hab : lv b ≤ lv a := by
        refine Classical.byContradiction fun hc => ?_
        rw [if_pos (by omega)] at hge; omega
      have hll : (trimL b).length ≤ (trimL a).length := by
        refine Classical.byContradiction fun hc => ?_
        have := tm_len wa' wb' ta tb (by omega)
        rw [trimL_lv, trimL_lv] at this; omega
      rw [ret_bind]
      refine (minus_ok wa' wb' (by omega) hll (by rw [trimL_lv, trimL_lv]; exact hab)).mono ?_
      rintro r ⟨r1, r2, r3⟩
      rw [trimL_lv, trimL_lv] at r3
      have hlen : r.length ≤ 901 := len_le r1 r2 (by omega)
      rw [ret_bind]
      refine (big_bg s r1 (by omega)).mono fun q hq => ⟨_, rfl, hq.cast ?_⟩
      unfold sv
      rw [r3]
      cases s <;> simp <;> omega
    · have hab : lv a < lv b := by
        refine Classical.byContradiction fun hc => ?_
        rw [if_neg hc] at hlt
        revert hlt; split <;> omega
      have hll : (trimL a).length ≤ (trimL b).length := by
        refine Classical.byContradiction fun hc => ?_
        have := tm_len wb' wa' tb ta (by omega)
        rw [trimL_lv, trimL_lv] at this; omega
      rw [ret_bind]
      refine (minus_ok wb' wa' (by omega) hll (by rw [trimL_lv, trimL_lv]; omega)).mono ?_
      rintro r ⟨r1, r2, r3⟩
      rw [trimL_lv, trimL_lv] at r3
      have hlen : r.length ≤ 901 := len_le r1 r2 (by omega)
      rw [ret_bind]
      refine (big_bg (!s) r1 (by omega)).mono fun q hq => ⟨_, rfl, hq.cast ?_⟩
      unfold sv
      rw [r3]
      cases s <;> simp <;> omega
theorem sub_bg {s t : Bool} {a b : List Int} (ha : LW a) (hb : LW b) (hn : a.length ≤ 900) (hm : b.length ≤ 900) : Ret (integer_Sub s a t b) (fun r => Bg (sv s a - sv t b) r.1 r.2) := by
  unfold integer_Sub
  rw [ret_bind]
  refine (add_bg (s := s) (t := !t) ha hb hn hm).mono fun r hr => ⟨_, rfl, hr.cast ?_⟩
  rw [sv_not]; omega
theorem sign_bg {s : Bool} {l : List Int} (hl : LW l) (hn : l.length ≤ 1000) : integer_Sign s l = some (if sv s l < 0 then -1 else if 0 < sv s l then 1 else 0) := by
  refine Ret.eq ?_
  unfold integer_Sign
  rw [trim_ok hl (by omega), obs]
  have h0 := lv_nn hl
  have hz := lv_zero (trimL_lw hl) (trimL_tm l)
  rw [trimL_lv] at hz
  unfold sv
  rw [ret_if]
  refine ⟨fun h => ⟨_, rfl, ?_⟩, fun h => ?_⟩
  · have : lv l = 0 := hz.2 (List.eq_nil_of_length_eq_zero (by omega))
    rw [this]; cases s <;> simp
  · have : lv l ≠ 0 := fun h1 => h (by rw [hz.1 h1]; rfl)
    rw [ret_if]
    refine ⟨fun hs => ⟨_, rfl, ?_⟩, fun hs => ⟨_, rfl, ?_⟩⟩
    · rw [if_pos hs, if_pos (by omega)]
    · rw [if_neg hs, if_neg (by omega), if_pos (by omega)]
theorem cmp_bg {s t : Bool} {a b : List Int} (ha : LW a) (hb : LW b) (hn : a.length ≤ 1000) (hm : b.length ≤ 1000) : integer_Cmp s a t b = some (if sv s a < sv t b then -1 else if sv t b < sv s a then 1 else 0) := by
  refine Ret.eq ?_
  unfold integer_Cmp
  have la := trim_len ha
  have lb := trim_len hb
  have h3 := lv_nn ha
  have h4 := lv_nn hb
  rw [sign_bg ha hn, obs, sign_bg hb hm, obs, ret_if]
  refine ⟨fun h => ⟨_, rfl, ?_⟩, fun h => ?_⟩
  · revert h; split <;> split <;> (try split) <;> (try split) <;> omega
  · rw [ret_if]
    refine ⟨fun h' => ⟨_, rfl, ?_⟩, fun h' => ?_⟩
    · revert h h'; split <;> split <;> (try split) <;> (try split) <;> omega
    · rw [trim_ok ha (by omega), obs, trim_ok hb (by omega), obs, compare_ok (trimL_lw ha) (trimL_lw hb) (trimL_tm a) (trimL_tm b) (by omega) (by omega), obs, trimL_lv, trimL_lv]
      refine ⟨_, rfl, ?_⟩
      revert h h'
      unfold sv
      cases s <;> cases t <;> simp only [if_true, if_false, Bool.false_eq_true] <;> split <;> split <;> (try split) <;> (try split) <;> intro h h' <;> first | omega | (rw [wm_i (by omega) (by omega)]; omega)
end Km
/- Chinese remainders: the numbers that both sides compute. -/
namespace Km
open Sx Go M Vc Lm Dt
def iv (p a : Int) : Int := (modular_inverse a p).getD 0
theorem iv_ok {p a : Int} (hp : PP p) (ha : 0 < a ∧ a < p) : modular_inverse a p = some (iv p a) ∧ (0 ≤ iv p a ∧ iv p a < p) ∧ a * iv p a % p = 1 := by
  obtain ⟨f, h1, h2, h3⟩ := inverse_ok hp ha
  have e : iv p a = f := by unfold iv; rw [h1]; rfl
  rw [e]
  exact ⟨h1, h2, h3⟩
def cst (res primes : List Int) : Nat → Int × Int
  | 0 => (0, 1)
  | i + 1 => ((cst res primes i).1 + (cst res primes i).2 * ((res.getD i 0 % primes.getD i 1 - (cst res primes i).1 % primes.getD i 1) % primes.getD i 1 * iv (primes.getD i 1) ((cst res primes i).2 % primes.getD i 1) % primes.getD i 1), (cst res primes i).2 * primes.getD i 1)
theorem cst_succ {res primes : List Int} {i : Nat} {r p : Int} (hr : res[i]? = some r) (hp : primes[i]? = some p) :
    cst res primes (i + 1) = ((cst res primes i).1 + (cst res primes i).2 * ((r % p - (cst res primes i).1 % p) % p * iv p ((cst res primes i).2 % p) % p), (cst res primes i).2 * p) := by
  have e1 : res.getD i 0 = r := by rw [List.getD_eq_getElem?_getD, hr]; rfl
  have e2 : primes.getD i 1 = p := by rw [List.getD_eq_getElem?_getD, hp]; rfl
  show ((cst res primes i).1 + _, _) = _
  rw [e1, e2]
theorem prm_dvd {p q : Int} (hp : PP p) (hq : PP q) (h : q ∣ p) : p = q := by
  have h2 := hp.two
  have h3 := hq.two
  obtain ⟨P, rfl⟩ := Int.eq_ofNat_of_zero_le (show 0 ≤ p by omega)
  obtain ⟨Q, rfl⟩ := Int.eq_ofNat_of_zero_le (show 0 ≤ q by omega)
  have hd : Q ∣ P := by exact_mod_cast h
  have := hp.prm.div Q (by simpa using hd)
  rw [Int.toNat_natCast] at this
  rcases this with e | e <;> omega
theorem prm_mul {p a b : Int} (hp : PP p) (ha : 0 ≤ a) (hb : 0 ≤ b) (h : p ∣ a * b) : p ∣ a ∨ p ∣ b := by
  have h2 := hp.two
  obtain ⟨P, rfl⟩ := Int.eq_ofNat_of_zero_le (show 0 ≤ p by omega)
  obtain ⟨A, rfl⟩ := Int.eq_ofNat_of_zero_le ha
  obtain ⟨C, rfl⟩ := Int.eq_ofNat_of_zero_le hb
  have hd : P ∣ A * C := by exact_mod_cast h
  have := hp.prm.euclid (by simpa using hd)
  rw [Int.toNat_natCast] at this
  rcases this with e | e
  · exact .inl (by exact_mod_cast e)
  · exact .inr (by exact_mod_cast e)
theorem prm_gcd {p n : Int} (hp : PP p) (hn : 0 ≤ n) (h : ¬ p ∣ n) : Int.gcd n p = 1 := by
  have h2 := hp.two
  obtain ⟨P, rfl⟩ := Int.eq_ofNat_of_zero_le (show 0 ≤ p by omega)
  obtain ⟨A, rfl⟩ := Int.eq_ofNat_of_zero_le hn
  have hd : ¬ P ∣ A := fun hh => h (by exact_mod_cast hh)
  have := hp.prm.cop (a := A) (by simpa using hd)
  rw [Int.toNat_natCast] at this
  rw [Int.gcd_comm]
  exact this
structure CI (res primes : List Int) (i : Nat) (X N : Int) : Prop where
  nn : 0 < N ∧ N ≤ pw i
  xx : 0 ≤ X ∧ X < N
  cg : ∀ j p r, j < i → primes[j]? = some p → res[j]? = some r → Cg p X r ∧ p ∣ N
  out : ∀ q, PP q → (∀ j p, j < i → primes[j]? = some p → p ≠ q) → ¬ q ∣ N
  all : ∀ d, (∀ j p, j < i → primes[j]? = some p → p ∣ d) → N ∣ d
theorem cst_ok {res primes : List Int} (hlen : res.length = primes.length) (hP : ∀ p, p ∈ primes → PP p) (hnd : primes.Nodup) : ∀ i, i ≤ primes.length → CI res primes i (cst res primes i).1 (cst res primes i).2 := by
  intro i
  induction i with
  | zero =>
    intro _
    refine ⟨by show (0 : Int) < 1 ∧ (1 : Int) ≤ 1; omega, by show (0 : Int) ≤ 0 ∧ (0 : Int) < 1; omega, fun j p r h => absurd h (by omega), fun q hq _ hd => ?_, fun d _ => ⟨d, by show d = 1 * d; omega⟩⟩
    have h1 := Int.le_of_dvd (by show (0 : Int) < 1; omega) hd
    have := hq.two
    have h1 : q ≤ 1 := h1
    omega
  | succ i ih =>
    intro hi
    have hI := ih (by omega)
    obtain ⟨p, hp⟩ : ∃ p, primes[i]? = some p := ⟨primes[i]'(by omega), List.getElem?_eq_getElem (by omega)⟩
    obtain ⟨r, hr⟩ : ∃ r, res[i]? = some r := ⟨res[i]'(by omega), List.getElem?_eq_getElem (by omega)⟩
    have hPp := hP p (mem_get hp)
    have h2 := hPp.two
    have h3 := hPp.max
    rw [cst_succ hr hp]
    generalize hX : (cst res primes i).1 = X at hI ⊢
    generalize hN : (cst res primes i).2 = N at hI ⊢
    have hne : ∀ j q, j < i → primes[j]? = some q → q ≠ p := by
      intro j q hj hq e
      subst e
      have hil := (List.getElem?_eq_some_iff.1 hp)
      have hjl := (List.getElem?_eq_some_iff.1 hq)
      have := (List.nodup_iff_pairwise_ne.1 hnd)
      rw [List.pairwise_iff_getElem] at this
      exact this j i hjl.1 hil.1 hj (hjl.2.trans hil.2.symm)
    have hnp := hI.out p hPp hne
    have hNp : 0 < N % p ∧ N % p < p := by
      have h4 := mod_rng N (show 0 < p by omega)
      have h5 : N % p ≠ 0 := fun h => hnp (Int.dvd_of_emod_eq_zero h)
      omega
    obtain ⟨_, hv, hv1⟩ := iv_ok hPp hNp
    generalize iv p (N % p) = v at hv hv1
    have hk := mod_rng ((r % p - X % p) % p * v) (show 0 < p by omega)
    have hkC : Cg p ((r % p - X % p) % p * v % p) ((r - X) * v) :=
      (Cg.mod p _).trans ((((Cg.mod p _).trans ((Cg.mod p r).sub (Cg.mod p X))).mul (Cg.refl p v)))
    generalize (r % p - X % p) % p * v % p = k at hk hkC
    have hpB : p ≤ B := by unfold B; omega
    have hvC : Cg p (N * v) 1 := by
      have h6 : Cg p (N * v) (N % p * v) := (Cg.mod p N).symm.mul (Cg.refl p v)
      refine h6.trans (Cg.iff.2 ?_)
      rw [hv1, Int.emod_eq_of_lt (by omega) (by omega)]
    have hn := hI.nn
    have hx := hI.xx
    have e2 : N * 1 ≤ N * p := Int.mul_le_mul_of_nonneg_left (by omega) (by omega)
    have e3 : N * k ≤ N * (p - 1) := Int.mul_le_mul_of_nonneg_left (by omega) (by omega)
    rw [Int.mul_sub] at e3
    have e4 : 0 ≤ N * k := Int.mul_nonneg (by omega) (by omega)
    refine ⟨⟨by show 0 < N * p; omega, ?_⟩, ⟨by show 0 ≤ X + N * k; omega, by show X + N * k < N * p; omega⟩, ?_, ?_, ?_⟩
    · show N * p ≤ B * pw i
      have h7 : N * p ≤ pw i * p := Int.mul_le_mul_of_nonneg_right hn.2 (by omega)
      have h8 : pw i * p ≤ pw i * B := Int.mul_le_mul_of_nonneg_left hpB (by have := pw_pos i; omega)
      rw [Int.mul_comm B]; omega
    · intro j q s hj hq hs
      by_cases e : j = i
      · subst e
        obtain rfl := Option.some.inj (hp.symm.trans hq)
        obtain rfl := Option.some.inj (hr.symm.trans hs)
        exact ⟨Nt.crt_step (by omega) hvC hkC, ⟨N, by show N * p = p * N; rw [Int.mul_comm]⟩⟩
      · obtain ⟨h8, h9⟩ := hI.cg j q s (by omega) hq hs
        exact ⟨Nt.crt_keep h9 h8, Int.dvd_trans h9 ⟨p, rfl⟩⟩
    · intro q hq hqn hd
      rcases prm_mul hq (by omega) (by omega) hd with h | h
      · exact hI.out q hq (fun j s hj hs => hqn j s (by omega) hs) h
      · exact hqn i p (by omega) hp (prm_dvd hPp hq h)
    · intro d hd
      exact Nt.cop_mul (prm_gcd hPp (by omega) hnp) (hI.all d fun j s hj hs => hd j s (by omega) hs) (hd i p (by omega) hp)
end Km
/- Combine: the program's, for distinct primes. -/
namespace Km
open Sx Go M Vc Lm Dt
section
variable {res primes : List Int}
/-- what both loops know -/
structure CS (res primes : List Int) (i : Nat) (s : Bool) (l : List Int) (t : Bool) (m : List Int) : Prop where
  x : Bg (cst res primes i).1 s l
  n : Bg (cst res primes i).2 t m
theorem pw_one : pw 1 = B := by simp [pw]
theorem pw_B {i : Nat} : pw (i + 1) = B * pw i := rfl
theorem CI.lens {i : Nat} {X N : Int} (h : CI res primes i X N) (hi : i ≤ 6) {s t : Bool} {l m : List Int} (hx : Bg X s l) (hn : Bg N t m) : l.length ≤ 6 ∧ m.length ≤ 7 := by
  have h1 := h.nn
  have h2 := h.xx
  have h3 := pw_mono hi
  have h4 : pw 7 = B * pw 6 := rfl
  have h5 := pw_pos 6
  have e : B = 4294967296 := rfl
  exact ⟨hx.len (m := 6) (by omega) (by omega), hn.len (m := 7) (by rw [h4, e]; omega) (by rw [h4, e]; omega)⟩
theorem combineL_ok (hlen : res.length = primes.length) (h6 : primes.length ≤ 6) (hP : ∀ p, p ∈ primes → PP p) (hnd : primes.Nodup) {t0 : Bool} {m0 : List Int} (h1 : Bg 1 t0 m0) :
    Ret (loop (modular_Combine_l1 primes res) (false, [], t0, m0, 0)) (fun r => CS res primes primes.length r.1 r.2.1 r.2.2.1 r.2.2.2) := by
  refine ret_loop (Post := fun r : Bool × List Int × Bool × List Int => CS res primes primes.length r.1 r.2.1 r.2.2.1 r.2.2.2) primes.length (fun i (s : Bool × List Int × Bool × List Int × Int) => s.2.2.2.2 = (i : Int) ∧ CS res primes i s.1 s.2.1 s.2.2.1 s.2.2.2.1) ⟨rfl, bg_zero, h1⟩ ?_ (by omega)
  rintro i ⟨s, l, t, m, _⟩ hi ⟨rfl, hC⟩
  simp only at hC
  unfold modular_Combine_l1
  simp only
  rw [ret_if]
  refine ⟨fun hlt => ?_, fun hge => ⟨_, rfl, by have e : i = primes.length := (by omega); subst e; exact hC⟩⟩
  have hil : i < primes.length := by omega
  rw [ret_bind, ret_get]
  refine ⟨by omega, hlt, fun p hp => ?_⟩
  rw [Int.toNat_natCast] at hp
  rw [ret_bind, ret_get]
  refine ⟨by omega, by omega, fun r hr => ?_⟩
  rw [Int.toNat_natCast] at hr
  have hI := cst_ok hlen hP hnd i (by omega)
  have hI1 := cst_ok hlen hP hnd (i + 1) (by omega)
  obtain ⟨hl6, hm7⟩ := hI.lens (by omega) hC.x hC.n
  have hPp := hP p (mem_get hp)
  have h2 := hPp.two
  have h3 := hPp.max
  have hne : ∀ j q, j < i → primes[j]? = some q → q ≠ p := by
    intro j q hj hq e
    subst e
    have hil := (List.getElem?_eq_some_iff.1 hp)
    have hjl := (List.getElem?_eq_some_iff.1 hq)
    have := (List.nodup_iff_pairwise_ne.1 hnd)
    rw [List.pairwise_iff_getElem] at this
    exact this j i hjl.1 hil.1 hj (hjl.2.trans hil.2.symm)
  have hnp := hI.out p hPp hne
  obtain ⟨hCx, hCn⟩ := hC
  have hsu := cst_succ hr hp
  generalize hX : (cst res primes i).1 = X at *
  generalize hN : (cst res primes i).2 = N at *
  have hNp : 0 < N % p ∧ N % p < p := by
    have h4 := mod_rng N (show 0 < p by omega)
    have h5 : N % p ≠ 0 := fun h => hnp (Int.dvd_of_emod_eq_zero h)
    omega
  obtain ⟨hv0, hv, _⟩ := iv_ok hPp hNp
  have rx : modular_remainder s l p = some (X % p) := by rw [remainder_ok hCx.1 (by omega) (by omega) (by omega)]; exact congrArg (fun z => some (z % p)) hCx.sv
  have rn : modular_remainder t m p = some (N % p) := by rw [remainder_ok hCn.1 (by omega) (by omega) (by omega)]; exact congrArg (fun z => some (z % p)) hCn.sv
  have q1 := mod_rng r (show 0 < p by omega)
  have q2 := mod_rng X (show 0 < p by omega)
  rw [mod_ok (by omega) h3, obs, rx, obs, ws_i (by omega) (by omega), mod_ok (by omega) h3, obs, rn, obs, hv0, obs, wmr h3 (mod_rng _ (by omega)) hv, obs]
  have hk := mod_rng ((r % p - X % p) % p * iv p (N % p)) (show 0 < p by omega)
  generalize (r % p - X % p) % p * iv p (N % p) % p = k at hk hsu ⊢
  rw [ret_bind]
  refine (from_bg (n := k) (by omega) (by omega)).mono fun f hf => ?_
  have hfl : f.2.length ≤ 1 := hf.len (by rw [pw_one]; unfold B; omega) (by rw [pw_one]; unfold B; omega)
  rw [ret_bind]
  refine (mul_bg (s := t) (t := f.1) hCn.1 hf.1 (by omega) (by omega)).mono fun g hg => ?_
  rw [hCn.sv, hf.sv] at hg
  rw [hsu] at hI1
  have hn1 := hI1.nn
  have hx1 := hI1.xx
  have h8 : pw (i + 1) ≤ pw 6 := pw_mono (by omega)
  have hn0 := hI.nn
  have hx0 := hI.xx
  have hNk : 0 ≤ N * k := Int.mul_nonneg (by omega) (by omega)
  have hgl : g.2.length ≤ 6 := hg.len (m := 6) (by have := pw_pos 6; omega) (by simp only at hx1 hn1; omega)
  rw [ret_bind]
  refine (add_bg (s := s) (t := g.1) hCx.1 hg.1 (by omega) (by omega)).mono fun u hu => ?_
  rw [hCx.sv, hg.sv] at hu
  rw [ret_bind]
  refine (from_bg (n := p) (by omega) (by omega)).mono fun f' hf' => ?_
  have hfl' : f'.2.length ≤ 1 := hf'.len (by rw [pw_one]; unfold B; omega) (by rw [pw_one]; unfold B; omega)
  rw [ret_bind]
  refine (mul_bg (s := t) (t := f'.1) hCn.1 hf'.1 (by omega) (by omega)).mono fun g' hg' => ?_
  rw [hCn.sv, hf'.sv] at hg'
  refine ⟨_, rfl, hil, by show wa .i64 (i : Int) 1 = _; rw [wa_i (by omega) (by omega)]; rfl, ?_, ?_⟩
  · rw [hsu]; exact hu
  · rw [hsu]; exact hg'
/-- the number in the symmetric range -/
def cfin (res primes : List Int) : Int := if (cst res primes primes.length).2 < 2 * (cst res primes primes.length).1 then (cst res primes primes.length).1 - (cst res primes primes.length).2 else (cst res primes primes.length).1
theorem combineP_ok (hlen : res.length = primes.length) (h6 : primes.length ≤ 6) (hP : ∀ p, p ∈ primes → PP p) (hnd : primes.Nodup) (hc : slices_ContainsFunc_int primes = some false) {q so : List Int} (hv : slices_Values_int primes = some ()) (hs : slices_Sorted_int primes = some so) (hq : compactI so = some q) (hql : q.length = primes.length) :
    Ret (modular_Combine res primes) (fun r => Bg (cfin res primes) r.1 r.2.1 ∧ Bg (cst res primes primes.length).2 r.2.2.1 r.2.2.2.1 ∧ r.2.2.2.2 = 0) := by
  unfold modular_Combine
  rw [if_pos (by omega), hc, obs, if_neg (by simp), hv, obs, hs, obs, hq, obs, if_pos (by omega), ret_bind]
  refine (from_bg (n := 1) (by omega) (by omega)).mono fun f hf => ?_
  rw [ret_bind]
  refine (combineL_ok hlen h6 hP hnd hf).mono ?_
  rintro ⟨s, l, t, m⟩ ⟨hx, hn⟩
  simp only at hx hn ⊢
  obtain ⟨hl6, hm7⟩ := (cst_ok hlen hP hnd _ (Nat.le_refl _)).lens h6 hx hn
  unfold cfin
  generalize (cst res primes primes.length).1 = X at *
  generalize (cst res primes primes.length).2 = N at *
  rw [ret_bind]
  refine (add_bg (s := s) (t := s) hx.1 hx.1 (by omega) (by omega)).mono fun d hd => ?_
  rw [hx.sv] at hd
  have hdl : d.2.length ≤ 7 := by
    have h4 : pw 7 = B * pw 6 := rfl
    have h5 := pw_pos 6
    have e : B = 4294967296 := rfl
    have h7 := lt_pw hx.1 hl6
    have h8 := hx.abs
    refine hd.len (m := 7) ?_ ?_ <;> (rw [h4, e]; split at h8 <;> omega)
  rw [cmp_bg (s := d.1) (t := t) hd.1 hn.1 (by omega) (by omega), obs, hd.sv, hn.sv, ret_if]
  refine ⟨fun hg => ?_, fun hg => ?_⟩
  · have hlt : N < 2 * X := by
      refine Classical.byContradiction fun hc => ?_
      revert hg; split <;> (try split) <;> omega
    rw [if_pos hlt, ret_bind]
    refine (sub_bg (s := s) (t := t) hx.1 hn.1 (by omega) (by omega)).mono fun u hu => ⟨_, rfl, ?_, hn, rfl⟩
    rw [hx.sv, hn.sv] at hu
    exact hu
  · have hlt : ¬ N < 2 * X := by
      intro hc
      rw [if_neg (by omega), if_pos (by omega)] at hg; omega
    rw [if_neg hlt]
    exact ⟨_, rfl, hx, hn, rfl⟩
end
end Km
/- Primes in a list, twins in a list. -/
namespace Km
open Sx Go M Vc Lm Dt
theorem awake07 : sparselaw07_awake = some true := by kernel_rfl
theorem sqb {i : Int} (h2 : 2 ≤ i) (h3 : i ≤ 46342) : 0 ≤ i * i ∧ i * i ≤ 46342 * 46342 := ⟨Int.mul_nonneg (by omega) (by omega), Int.mul_le_mul h3 h3 (by omega) (by omega)⟩
theorem isPrime_cases (x : Int) : modular_IsPrime x = some false ∨ (modular_IsPrime x = some true ∧ PP x) := by
  by_cases hx : x < 2 ∨ 2147483647 < x
  · refine .inl ?_
    unfold modular_IsPrime
    rw [if_pos (by simpa using hx)]
  · have hx : 2 ≤ x ∧ x ≤ 2147483647 := by omega
    obtain ⟨P, rfl⟩ := Int.eq_ofNat_of_zero_le (show 0 ≤ x by omega)
    have h : Ret (loop (modular_IsPrime_l2 (P : Int)) 2) (fun o => o = .inl () → ∀ d, 2 ≤ d → d * d ≤ P → ¬ d ∣ P) := by
      refine ret_loopM (fun i => (2 ≤ i ∧ i ≤ 46342) ∧ ∀ d : Nat, 2 ≤ d → (d : Int) < i → ¬ d ∣ P) (fun i => (46342 - i).toNat) ⟨by decide, fun d h1 h2 => absurd h2 (by omega)⟩ (by decide) ?_
      rintro i ⟨⟨h2, h3⟩, h0⟩
      obtain ⟨h4, h5⟩ := sqb h2 h3
      unfold modular_IsPrime_l2
      rw [wm_i (by omega) (by omega)]
      split
      · rename_i hle
        have h6 : i ≤ 46341 := by
          refine Classical.byContradiction fun hc => ?_
          obtain rfl : i = 46342 := by omega
          omega
        rw [wr_nn (by omega) (by omega), obs]
        split
        · exact ⟨_, rfl, fun h => by cases h⟩
        · rename_i hne
          refine ⟨_, rfl, ?_⟩
          rw [wa_i (by omega) (by omega)]
          refine ⟨⟨⟨by omega, by omega⟩, fun d hd1 hd2 hd3 => ?_⟩, by show (46342 - (i + 1)).toNat < (46342 - i).toNat; omega⟩
          by_cases e : (d : Int) = i
          · apply hne
            rw [← e]
            exact Int.emod_eq_zero_of_dvd (by exact_mod_cast hd3)
          · exact h0 d hd1 (by omega) hd3
      · rename_i hgt
        refine ⟨_, rfl, fun _ d hd1 hd2 => h0 d hd1 ?_⟩
        refine Classical.byContradiction fun hc => ?_
        have : i * i ≤ (d : Int) * (d : Int) := Int.mul_le_mul (by omega) (by omega) (by omega) (by omega)
        have h9 : ((d * d : Nat) : Int) ≤ (P : Int) := by omega
        simp at h9
        omega
    obtain ⟨o, ho, hpo⟩ := h
    unfold modular_IsPrime
    rw [if_neg (by simp; omega), ho, obs]
    cases o with
    | inr u => exact .inl rfl
    | inl u => exact .inr ⟨rfl, hx.1, hx.2, Nt.Prm.of (by rw [Int.toNat_natCast]; omega) (by rw [Int.toNat_natCast]; exact hpo rfl)⟩
def pb (x : Int) : Bool := (modular_IsPrime x).getD false
theorem pb_ok (x : Int) : modular_IsPrime x = some (pb x) ∧ (pb x = true → PP x) := by
  unfold pb
  rcases isPrime_cases x with h | ⟨h, hp⟩
  · rw [h]; exact ⟨rfl, fun h => by cases h⟩
  · rw [h]; exact ⟨rfl, fun _ => hp⟩
theorem contains_ok {l : List Int} (hl : l.length ≤ 1000) : slices_ContainsFunc_int l = some (decide (∃ x, x ∈ l ∧ pb x = false)) := by
  refine Ret.eq ?_
  unfold slices_ContainsFunc_int slices_IndexFunc_int
  rw [ret_bind, ret_bind]
  refine (ret_loop (Post := fun o => (o = .inl () ∧ ∀ x, x ∈ l → pb x = true) ∨ ∃ j, o = .inr j ∧ 0 ≤ j ∧ ∃ x, x ∈ l ∧ pb x = false) l.length (fun k (i : Int) => i = (k : Int) ∧ ∀ x, x ∈ l.take k → pb x = true) ⟨rfl, by simp⟩ ?_ (by omega)).mono ?_
  · rintro k _ hk ⟨rfl, hI⟩
    unfold slices_IndexFunc_int_l1
    rw [ret_if]
    refine ⟨fun hlt => ?_, fun hge => ⟨_, rfl, .inl ⟨rfl, fun x hx => hI x (by rw [take_all (by omega)]; exact hx)⟩⟩⟩
    rw [ret_bind, ret_get]
    refine ⟨by omega, hlt, fun x hx => ?_⟩
    rw [Int.toNat_natCast] at hx
    unfold modular_Combine_1
    rw [(pb_ok x).1, obs, obs, ret_if]
    refine ⟨fun h => ⟨_, rfl, .inr ⟨_, rfl, by omega, x, mem_get hx, by simpa using h⟩⟩, fun h => ⟨_, rfl, by omega, ?_, ?_⟩⟩
    · show wa .i64 (k : Int) 1 = _; rw [wa_i (by omega) (by omega)]; rfl
    · intro y hy
      rw [tks hx, List.mem_append] at hy
      rcases hy with hy | hy
      · exact hI y hy
      · simp at hy; subst hy; simpa using h
  · rintro _ (⟨rfl, h⟩ | ⟨j, rfl, h0, h⟩)
    · refine ⟨_, rfl, _, rfl, ?_⟩
      have hn : ¬ ∃ x, x ∈ l ∧ pb x = false := by
        rintro ⟨x, hx, hf⟩
        rw [h x hx] at hf; cases hf
      rw [decide_eq_false hn]
      rfl
    · refine ⟨_, rfl, _, rfl, ?_⟩
      rw [decide_eq_true h0, decide_eq_true h]
theorem compact_nd {m : List Int} (hs : m.Pairwise (· ≤ ·)) : (Go.Lib.compact m).length = m.length ↔ m.Nodup := by
  have hlen : (Go.Lib.compact m).length = ((List.range m.length).filter (Go.Lib.keeps m.toArray)).length := by
    unfold Go.Lib.compact Go.Lib.compactUpTo
    rw [List.length_map]
  have hk : ∀ j, j < m.length → (Go.Lib.keeps m.toArray j = true ↔ j = 0 ∨ m[j]! ≠ m[j - 1]!) := by
    intro j hj
    unfold Go.Lib.keeps
    simp
  constructor
  · intro h
    refine Classical.byContradiction fun hn => ?_
    have hex : ∃ j, j < m.length ∧ Go.Lib.keeps m.toArray j ≠ true := by
      refine Classical.byContradiction fun hno => hn ?_
      have hall : ∀ j (hj : j + 1 < m.length), m[j] < m[j + 1] := by
        intro j hj
        have h1 : Go.Lib.keeps m.toArray (j + 1) = true := Classical.byContradiction fun h => hno ⟨j + 1, hj, h⟩
        rw [hk _ hj] at h1
        have h2 := h1.resolve_left (by omega)
        rw [getElem!_pos m (j + 1) hj, getElem!_pos m (j + 1 - 1) (by omega)] at h2
        have h3 := List.pairwise_iff_getElem.1 hs j (j + 1) (by omega) hj (by omega)
        have h4 : m[j + 1 - 1] = m[j] := by congr 1
        omega
      have hlt : ∀ d i (h : i + 1 + d < m.length), m[i] < m[i + 1 + d] := by
        intro d
        induction d with
        | zero => intro i h; exact hall i h
        | succ d ih =>
          intro i h
          have h1 := ih i (by omega)
          have h2 := hall (i + 1 + d) (by omega)
          have h3 : m[i + 1 + (d + 1)] = m[i + 1 + d + 1] := by congr 1
          omega
      rw [List.nodup_iff_pairwise_ne, List.pairwise_iff_getElem]
      intro i j hi hj hij
      have := hlt (j - i - 1) i (by omega)
      have h3 : m[i + 1 + (j - i - 1)]'(by omega) = m[j] := by congr 1; omega
      omega
    obtain ⟨j, hj, hkj⟩ := hex
    rw [hlen] at h
    have h1 := List.length_filter_lt_length_iff_exists.2 (⟨j, List.mem_range.2 hj, hkj⟩ : ∃ x, x ∈ List.range m.length ∧ ¬ Go.Lib.keeps m.toArray x = true)
    rw [List.length_range] at h1
    omega
  · intro hn
    have hall : ∀ j, j < m.length → Go.Lib.keeps m.toArray j = true := by
      intro j hj
      rw [hk j hj]
      by_cases h0 : j = 0
      · exact .inl h0
      · right
        rw [getElem!_pos m j hj, getElem!_pos m (j - 1) (by omega)]
        have := List.nodup_iff_pairwise_ne.1 hn
        rw [List.pairwise_iff_getElem] at this
        exact fun e => this (j - 1) j (by omega) hj (by omega) e.symm
    rw [Go.Lib.compact_all m hall]
theorem sorted_ok {l : List Int} (hl : l.length ≤ 1000) : ∃ so q, slices_Values_int l = some () ∧ slices_Sorted_int l = some so ∧ compactI so = some q ∧ (q.length = l.length ↔ l.Nodup) := by
  have hp := isortI_perm l
  have hs := isortI_sorted l
  have hlen := hp.length_eq
  have h1 := compact_nd hs
  rw [hlen, hp.nodup_iff] at h1
  have e1 : sortI l = some (isortI l) := by unfold sortI BIG; rw [if_pos (by omega)]
  have e2 : compactI (isortI l) = some (Go.Lib.compact (isortI l)) := by unfold compactI BIG; rw [if_pos (by omega)]
  have e3 : colV l = some l := by unfold colV BIG; rw [if_pos (by omega)]
  refine ⟨isortI l, Go.Lib.compact (isortI l), rfl, ?_, e2, h1⟩
  unfold slices_Sorted_int slices_Collect_int
  rw [e3, obs, obs, e1, obs]
theorem limbs_self {l : List Int} (hl : l.length ≤ 1000) : sparsekit_Limbs l l = some true := by
  refine Ret.eq ?_
  unfold sparsekit_Limbs
  rw [if_pos rfl, ret_bind]
  refine (ret_loop (Post := fun o => o = .inl ()) l.length (fun k (i : Int) => i = (k : Int)) rfl ?_ (by omega)).mono ?_
  · rintro k _ hk rfl
    unfold sparsekit_Limbs_l1
    rw [ret_if]
    refine ⟨fun hlt => ?_, fun hge => ⟨_, rfl, rfl⟩⟩
    rw [ret_bind, ret_get]
    refine ⟨by omega, hlt, fun x hx => ?_⟩
    rw [ret_bind, ret_get]
    refine ⟨by omega, hlt, fun y hy => ?_⟩
    obtain rfl := Option.some.inj (hx.symm.trans hy)
    rw [if_pos rfl]
    refine ⟨_, rfl, by omega, ?_⟩
    show wa .i64 (k : Int) 1 = _
    rw [wa_i (by omega) (by omega)]; rfl
  · rintro _ rfl
    exact ⟨_, rfl, rfl⟩
theorem bigS_ok {v : Int} {s t : Bool} {l m : List Int} (h : Bg v s l) (h' : Bg v t m) (hl : l.length ≤ 1000) : sparsekit_Big s l t m = some true := by
  obtain ⟨rfl, rfl⟩ := h.uniq h'
  unfold sparsekit_Big
  rw [if_pos (by simp), limbs_self hl, obs, obs]
end Km
/- The law ModularChinese. -/
namespace Km
open Sx Go M Vc Lm Dt
def cps : List Int := [3, 101, 65537, 1000003, 2147483647]
theorem prm_3 : Nt.Prm 3 := Nt.Prm.by_nodiv (n := 0) (by omega) rfl (by omega)
theorem cps_pp : ∀ p, p ∈ cps → PP p := by
  intro p hp
  unfold cps at hp
  simp only [List.mem_cons, List.not_mem_nil, or_false] at hp
  rcases hp with rfl | rfl | rfl | rfl | rfl
  · exact ⟨by omega, by omega, prm_3⟩
  · exact ⟨by omega, by omega, Nt.prm_101⟩
  · exact ⟨by omega, by omega, Nt.prm_fer⟩
  · exact ⟨by omega, by omega, Nt.prm_mil⟩
  · exact ⟨by omega, by omega, Nt.prm_max⟩
theorem pp_true {p : Int} (hp : PP p) : modular_IsPrime p = some true := by
  rcases isPrime_cases p with h | ⟨h, _⟩
  · exfalso
    unfold modular_IsPrime at h
    have h2 := hp.two
    have h3 := hp.max
    rw [if_neg (by simp; omega)] at h
    obtain ⟨P, rfl⟩ := Int.eq_ofNat_of_zero_le (show 0 ≤ p by omega)
    have key : Ret (loop (modular_IsPrime_l2 (P : Int)) 2) (fun o => o = .inl ()) := by
      refine ret_loopM (fun i => 2 ≤ i ∧ i ≤ 46342) (fun i => (46342 - i).toNat) (by decide) (by decide) ?_
      rintro i ⟨h2, h3⟩
      obtain ⟨h4, h5⟩ := sqb h2 h3
      unfold modular_IsPrime_l2
      rw [wm_i (by omega) (by omega)]
      split
      · rename_i hle
        have h6 : i ≤ 46341 := by
          refine Classical.byContradiction fun hc => ?_
          obtain rfl : i = 46342 := by omega
          omega
        rw [wr_nn (by omega) (by omega), obs]
        split
        · rename_i h0
          exfalso
          have hd : i ∣ (P : Int) := Int.dvd_of_emod_eq_zero h0
          obtain ⟨I, rfl⟩ := Int.eq_ofNat_of_zero_le (show 0 ≤ i by omega)
          have hd' : I ∣ P := by exact_mod_cast hd
          have := hp.prm.div I (by simpa using hd')
          rw [Int.toNat_natCast] at this
          rcases this with e | e
          · omega
          · subst e
            have : (I : Int) * 2 ≤ (I : Int) * (I : Int) := Int.mul_le_mul_of_nonneg_left (by omega) (by omega)
            omega
        · refine ⟨_, rfl, ?_⟩
          rw [wa_i (by omega) (by omega)]
          exact ⟨⟨by omega, by omega⟩, by show (46342 - (i + 1)).toNat < (46342 - i).toNat; omega⟩
      · exact ⟨_, rfl, rfl⟩
    obtain ⟨o, ho, rfl⟩ := key
    rw [ho, obs] at h
    cases h
  · exact h
theorem clone_ok {a : List Int} (h : a.length ≤ 1000000) : slices_Clone_uint32 a = some a := by
  unfold slices_Clone_uint32 app BIG
  rw [if_pos (by simp; omega), obs, List.nil_append]
theorem normP_bg {s : Bool} {a : List Int} (ha : LW a) (hn : a.length ≤ 1000000) : Ret (integer_Norm s a) (fun r => Bg (sv s a) r.1 r.2) := by
  unfold integer_Norm
  rw [clone_ok hn, obs, ret_bind]
  exact (big_bg s ha hn).mono fun r hr => ⟨_, rfl, hr⟩
theorem place3 (x : Int) : ∃ t, sparsekit_Place x 3 = some t ∧ 0 ≤ t ∧ t < 3 := by
  unfold sparsekit_Place
  have e : wc .u64 3 = 3 := wc_u64_in ⟨by omega, by omega⟩
  have h0 : 0 ≤ wc .u64 x := by rw [wc_u64]; omega
  rw [e, wr_nn h0 (by omega), obs]
  have h1 := mod_rng (wc .u64 x) (show (0 : Int) < 3 by omega)
  exact ⟨_, rfl, by rw [wc_i64_in ⟨by omega, by omega⟩]; exact h1⟩
theorem cst_two (res primes : List Int) (i : Nat) : (cst res primes (i + 1)).2 = (cst res primes i).2 * primes.getD i 1 := rfl
theorem cps_prod (res : List Int) : (cst res cps cps.length).2 = 42644237571680935056051 := by
  show (cst res cps (4 + 1)).2 = _
  rw [cst_two, cst_two, cst_two, cst_two, cst_two]
  show (1 : Int) * 3 * 101 * 65537 * 1000003 * 2147483647 = _
  decide
theorem modularChinese_true (s : Bool) (a l : List Int) (ha : LW a) : sparselaw07_ModularChinese s a l = some true := by
  refine Ret.eq ?_
  unfold sparselaw07_ModularChinese sparsekit_Slim
  rw [obs, ret_if]
  refine ⟨fun hS => ?_, fun _ => by rw [awake07, obs]; exact ⟨_, rfl, rfl⟩⟩
  have hal : a.length ≤ 2 := by
    have : (a.length : Int) ≤ 2 := by simpa using hS
    omega
  rw [ret_bind]
  refine (ret_loop (Post := fun o => ∃ res : List Int, o = .inl res ∧ res.length = 5 ∧ ∀ (j : Nat) p r, cps[j]? = some p → res[j]? = some r → Cg p r (sv s a)) 5 (fun k (t : List Int × Int) => t.2 = (k : Int) ∧ t.1.length = k ∧ ∀ (j : Nat) p r, cps[j]? = some p → t.1[j]? = some r → Cg p r (sv s a)) ⟨rfl, rfl, fun j p r _ h => by simp at h⟩ ?_ (by omega)).mono ?_
  · rintro k ⟨out, _⟩ hk ⟨rfl, hol, hI⟩
    simp only at hol hI
    unfold sparselaw07_ModularChinese_l3
    simp only
    rw [ret_if]
    refine ⟨fun hlt => ?_, fun hge => ⟨_, rfl, out, rfl, by omega, hI⟩⟩
    have hk5 : k < 5 := by omega
    obtain ⟨p, hp⟩ : ∃ p, cps[k]? = some p := ⟨cps[k]'(by show k < 5; omega), List.getElem?_eq_getElem (by show k < 5; omega)⟩
    have hPp := cps_pp p (mem_get hp)
    have h2 := hPp.two
    have h3 := hPp.max
    have hg : getI [3, 101, 65537, 1000003, 2147483647] (k : Int) = some p := by
      refine Ret.eq ?_
      rw [ret_get]
      refine ⟨by omega, by show (k : Int) < ((5 : Nat) : Int); omega, fun x hx => ?_⟩
      rw [Int.toNat_natCast] at hx
      exact Option.some.inj (hx.symm.trans hp)
    have hR : modular_Reduce s a p = some (sv s a % p, 0) := by
      unfold modular_Reduce
      rw [pp_true hPp, obs, if_pos rfl, remainder_ok ha (by omega) (by omega) (by omega), obs]
      rfl
    have hm := mod_rng (sv s a) (show 0 < p by omega)
    have fin : ∀ r : Int, Cg p r (sv s a) → Ret (sparselaw07_ModularChinese_j8 out (k : Int) r) (VQ (fun t' : List Int × Int => k < 5 ∧ t'.2 = ((k + 1 : Nat) : Int) ∧ t'.1.length = k + 1 ∧ ∀ (j : Nat) p r, cps[j]? = some p → t'.1[j]? = some r → Cg p r (sv s a)) (fun o => ∃ res : List Int, o = .inl res ∧ res.length = 5 ∧ ∀ (j : Nat) p r, cps[j]? = some p → res[j]? = some r → Cg p r (sv s a))) := by
      intro r hr
      unfold sparselaw07_ModularChinese_j8
      rw [ret_bind, ret_app]
      refine ⟨by rw [hol]; simp only [List.length_cons, List.length_nil]; omega, _, rfl, hk5, by show wa .i64 (k : Int) 1 = _; rw [wa_i (by omega) (by omega)]; rfl, by show (out ++ [r]).length = _; rw [List.length_append, hol]; rfl, ?_⟩
      intro j q z hq hz
      have hz : (out ++ [r])[j]? = some z := hz
      by_cases hj : j < k
      · rw [List.getElem?_append_left (by omega)] at hz
        exact hI j q z hq hz
      · rw [List.getElem?_append_right (by omega), hol] at hz
        have hjk : j = k := by
          refine Classical.byContradiction fun hc => ?_
          rw [List.getElem?_eq_none (by simp; omega)] at hz
          cases hz
        subst hjk
        rw [Nat.sub_self] at hz
        obtain rfl := Option.some.inj (hz.symm.trans rfl)
        obtain rfl := Option.some.inj (hp.symm.trans hq)
        exact hr
    rw [hg, obs, hR, obs, if_pos rfl, ret_if]
    refine ⟨fun hll => ?_, fun _ => fin _ (Cg.mod p _)⟩
    rw [obs, ret_bind, ret_get]
    refine ⟨by omega, hll, fun x hx => ?_⟩
    obtain ⟨t, ht, t0, t1⟩ := place3 x
    have hpt : 0 ≤ p * t := Int.mul_nonneg (by omega) t0
    have hpt2 : p * t ≤ p * 2 := Int.mul_le_mul_of_nonneg_left (by omega) (by omega)
    rw [ht, obs, wm_i (by omega) (by omega), ws_i (x := sv s a % p) (by omega) (by omega)]
    refine fin _ ?_
    have h8 : Cg p (p * t) 0 := ⟨t, by omega⟩
    have h9 := (Cg.mod p (sv s a)).sub h8
    rwa [Int.sub_zero] at h9
  · rintro _ ⟨res, rfl, hrl, hcg⟩
    show Ret ((modular_Combine res cps).bind _) _
    have hlen : res.length = cps.length := hrl
    have h6 : cps.length ≤ 6 := by decide
    have hnd : cps.Nodup := by decide
    have hC := contains_ok (l := cps) (by decide)
    have hno : ¬ ∃ x, x ∈ cps ∧ pb x = false := by
      rintro ⟨x, hx, hf⟩
      have h1 := (pb_ok x).1
      rw [pp_true (cps_pp x hx), hf] at h1
      cases h1
    rw [decide_eq_false hno] at hC
    obtain ⟨so, q, v1, v2, v3, v4⟩ := sorted_ok (l := cps) (by decide)
    rw [ret_bind]
    refine (combineP_ok hlen h6 cps_pp hnd hC v1 v2 v3 (v4.2 hnd)).mono ?_
    rintro ⟨sx, lx, tn, mn, e⟩ ⟨hx, hN, he⟩
    simp only at hx hN he ⊢
    subst he
    have hI := cst_ok hlen cps_pp hnd _ (Nat.le_refl _)
    have hprod := cps_prod res
    have hlt := lv_lt ha
    have hnn := lv_nn ha
    have hpa : pw a.length ≤ pw 2 := pw_mono hal
    have hp2 : pw 2 = 18446744073709551616 := by decide
    have hA : - 18446744073709551616 < sv s a ∧ sv s a < 18446744073709551616 := by
      unfold sv; split <;> omega
    have hdv : (cst res cps cps.length).2 ∣ (cst res cps cps.length).1 - sv s a := by
      refine hI.all _ fun j p hj hp => ?_
      obtain ⟨r, hr⟩ : ∃ r, res[j]? = some r := ⟨res[j]'(by omega), List.getElem?_eq_getElem (by omega)⟩
      exact (hI.cg j p r hj hp hr).1.trans (hcg j p r hp hr)
    have hxx := hI.xx
    have hfin : cfin res cps = sv s a := by
      unfold cfin
      generalize (cst res cps cps.length).1 = X at *
      generalize (cst res cps cps.length).2 = N at *
      split
      · rename_i hg
        refine Nt.crt_uniq (n := N) (by omega) ?_ ⟨by omega, by omega⟩ ⟨by omega, by omega⟩
        obtain ⟨k, hk⟩ := hdv
        exact ⟨k - 1, by rw [Int.mul_sub]; omega⟩
      · rename_i hg
        exact Nt.crt_uniq (n := N) (by omega) hdv ⟨by omega, by omega⟩ ⟨by omega, by omega⟩
    rw [hfin] at hx
    rw [hprod] at hN
    have hxl : lx.length ≤ 2 := hx.len (by rw [hp2]; omega) (by rw [hp2]; omega)
    have hp3 : pw 3 = 79228162514264337593543950336 := by decide
    have hml : mn.length ≤ 3 := hN.len (by rw [hp3]; omega) (by rw [hp3]; omega)
    obtain ⟨nr, hnr, hnB⟩ := normP_bg (s := s) ha (by omega)
    rw [if_pos rfl, hnr, obs, bigS_ok hx hnB (by omega), obs]
    rw [obs, if_neg (by simp), ret_bind]
    refine (from_bg (n := 19857711) (by omega) (by omega)).mono fun f1 hf1 => ?_
    rw [ret_bind]
    refine (from_bg (n := 1000003) (by omega) (by omega)).mono fun f2 hf2 => ?_
    have l1 : f1.2.length ≤ 1 := hf1.len (by decide) (by decide)
    have l2 : f2.2.length ≤ 1 := hf2.len (by decide) (by decide)
    rw [ret_bind]
    refine (mul_bg (s := f1.1) (t := f2.1) hf1.1 hf2.1 (by omega) (by omega)).mono fun g1 hg1 => ?_
    rw [hf1.sv, hf2.sv] at hg1
    have l3 : g1.2.length ≤ 2 := hg1.len (by decide) (by decide)
    rw [ret_bind]
    refine (from_bg (n := 2147483647) (by omega) (by omega)).mono fun f3 hf3 => ?_
    have l4 : f3.2.length ≤ 1 := hf3.len (by decide) (by decide)
    rw [ret_bind]
    refine (mul_bg (s := g1.1) (t := f3.1) hg1.1 hf3.1 (by omega) (by omega)).mono fun g2 hg2 => ?_
    rw [hg1.sv, hf3.sv] at hg2
    have hg2 := hg2.cast (show (19857711 * 1000003 * 2147483647 : Int) = 42644237571680935056051 by decide)
    rw [bigS_ok hN hg2 (by omega), obs, if_pos rfl, awake07, obs, obs]
    exact ⟨_, rfl, rfl⟩
theorem wf_u32 {n : Int} (h : Wf .u32 n) : 0 ≤ n ∧ n < B := by
  simp only [Wf, Lit.wf, Bool.and_eq_true, decide_eq_true_eq] at h
  have e : IntKind.max .u32 = 4294967295 := by decide
  have f : IntKind.min .u32 = 0 := by decide
  unfold B
  omega
theorem modularChinese_t (s : Bool) (a l : List Int) (ha : okL (Wf .u32) a) (_ : okL (Wf .i64) l) : sparselaw07_ModularChinese s a l = some true := modularChinese_true s a l fun x hx => wf_u32 (ha.2 x hx)
end Km
