/- The paper's limbs: trimming, comparison, sums, differences. -/
import Derived.Test.YtnfamnfdndaekaaGreatDoorQzA
import Derived.Test.YtnfamnfdndaekaaGreatDoorM6
import Derived.Test.YtnfamnfdndaekaaGreatDoorVcA
import Derived.KernelRfl
set_option linter.unusedVariables false
set_option linter.unusedSimpArgs false
set_option maxHeartbeats 4000000
set_option maxRecDepth 10000
namespace Km
open Sx Go M Vc Lm
theorem trimR_ok {l : List Int} (hl : LW l) (hn : l.length ≤ 1000000) : sparseref01_trim l = some (trimL l) := by
  refine Ret.eq ?_
  have h := trim_ok hl hn
  unfold integer_trim at h
  unfold sparseref01_trim
  have e3 : sparseref01_trim_l3 = integer_trim_l3 := rfl
  rw [e3]
  cases hL : loop (integer_trim_l3 l) (l.length : Int) with
  | none => rw [hL] at h; cases h
  | some i =>
    rw [hL, obs] at h
    have hs : ∃ t, sli l 0 i = some t ∧ t = trimL l := by
      cases hs : sli l 0 i with
      | none => rw [hs] at h; cases h
      | some t => rw [hs, obs] at h; exact ⟨t, rfl, Option.some.inj h⟩
    obtain ⟨t, ht, htr⟩ := hs
    obtain ⟨t1, _, t2, t3⟩ := sli_some ht
    obtain ⟨k, rfl⟩ := Int.eq_ofNat_of_zero_le t2
    have htk : t = l.take k := by rw [t1]; unfold subL; simp
    rw [obs, ret_bind]
    refine (ret_loop (Post := fun o => o = l.take k) k (fun m (s : List Int × Int) => s = (l.take m, (m : Int))) (by simp) ?_ (by omega)).mono fun o ho => ⟨_, rfl, by rw [ho, ← htk, htr]⟩
    rintro m _ hm rfl
    unfold sparseref01_trim_l4
    simp only
    rw [ret_if]
    refine ⟨fun hlt => ?_, fun hge => ⟨_, rfl, by have e : m = k := (by omega); rw [e]; rfl⟩⟩
    rw [ret_bind, ret_get]
    refine ⟨by omega, by omega, fun x hx => ?_⟩
    rw [Int.toNat_natCast] at hx
    rw [ret_bind, ret_app]
    refine ⟨by rw [List.length_take]; simp only [List.length_cons, List.length_nil]; omega, _, rfl, by omega, ?_⟩
    rw [wa_i (by omega) (by omega), ← tks hx]; rfl
theorem make1_ok {l : List Int} (s : Bool) (hl : LW l) (hn : l.length ≤ 1000000) : sparseref01_make1 s l = some (s && decide ((0 : Int) < ((trimL l).length : Int)), trimL l) := by
  unfold sparseref01_make1
  rw [trimR_ok hl hn, obs]
theorem norm_ok {l : List Int} (s : Bool) (hl : LW l) (hn : l.length ≤ 1000000) : sparseref01_Norm s l = some (s && decide ((0 : Int) < ((trimL l).length : Int)), trimL l) := by
  unfold sparseref01_Norm
  rw [make1_ok s hl hn, obs]
theorem fromR_ok {p : Int} (hp : 0 < p) (hB : p < B) : sparseref01_FromInt p = some (false, [p]) := by
  have e : B = 4294967296 := rfl
  unfold sparseref01_FromInt sparseref01_FromInt_j1
  rw [if_neg (by omega), wc_u64_in ⟨by omega, by omega⟩, wsrc32 (by omega)]
  have e2 : p / B = 0 := Int.ediv_eq_zero_of_lt (by omega) hB
  rw [e2, wc_u32_in ⟨by omega, hB⟩, wc_u32_in ⟨by omega, by omega⟩]
  have hl : LW [p, 0] := by
    intro x hx
    simp at hx
    omega
  have ht : trimL [p, 0] = [p] := by
    simp [trimL]
    omega
  rw [make1_ok _ hl (by simp), ht, obs]
  simp
  omega
theorem cmpMag_ok {a b : List Int} (ha : LW a) (hb : LW b) (ta : Tm a) (tb : Tm b) (hn : a.length ≤ 1000) (hm : b.length ≤ 1000) : sparseref01_cmpMag a b = some (if lv a < lv b then -1 else if lv b < lv a then 1 else 0) := by
  refine Ret.eq ?_
  unfold sparseref01_cmpMag
  rw [ret_if]
  refine ⟨fun hl => ?_, fun hl => ?_⟩
  · have hl : a.length = b.length := by omega
    rw [ret_bind]
    refine (ret_loop (Post := fun o => (o = .inl () ∧ a = b) ∨ ∃ c, o = .inr c ∧ c = (if lv a < lv b then -1 else if lv b < lv a then 1 else 0)) a.length (fun m (i : Int) => i = (a.length : Int) - 1 - m ∧ m ≤ a.length ∧ a.drop (a.length - m) = b.drop (a.length - m)) ⟨by rw [ws_i (by omega) (by omega)]; omega, by omega, by rw [Nat.sub_zero, List.drop_length, List.drop_of_length_le (by omega)]⟩ ?_ (by omega)).mono ?_
    · rintro m i hm' ⟨rfl, h1, h2⟩
      unfold sparseref01_cmpMag_l1
      rw [ret_if]
      refine ⟨fun hge => ?_, fun hlt => ⟨_, rfl, .inl ⟨rfl, by have e : a.length - m = 0 := (by omega); rwa [e, List.drop_zero, List.drop_zero] at h2⟩⟩⟩
      obtain ⟨j, hj⟩ : ∃ j : Nat, a.length = j + (m + 1) := ⟨a.length - (m + 1), by omega⟩
      have ej : (a.length : Int) - 1 - (m : Int) = (j : Int) := by omega
      have e2 : a.length - m = j + 1 := by omega
      rw [e2] at h2
      rw [ej, ret_bind, ret_get]
      refine ⟨by omega, by omega, fun x hx => ?_⟩
      rw [ret_bind, ret_get]
      refine ⟨by omega, by omega, fun y hy => ?_⟩
      rw [Int.toNat_natCast] at hx hy
      rw [ret_if]
      refine ⟨fun he => ⟨_, rfl, by omega, by rw [ws_i (by omega) (by omega)]; omega, by omega, ?_⟩, fun hne => ?_⟩
      · subst he
        obtain ⟨k1, k2⟩ := List.getElem?_eq_some_iff.1 hx
        obtain ⟨k3, k4⟩ := List.getElem?_eq_some_iff.1 hy
        rw [show a.length - (m + 1) = j by omega, List.drop_eq_getElem_cons k1, List.drop_eq_getElem_cons k3, k2, k4, h2]
      · rw [ret_bind, ret_get]
        refine ⟨by omega, by omega, fun x' hx' => ?_⟩
        rw [Int.toNat_natCast, hx] at hx'
        obtain rfl := Option.some.inj hx'
        rw [ret_bind, ret_get]
        refine ⟨by omega, by omega, fun y' hy' => ?_⟩
        rw [Int.toNat_natCast, hy] at hy'
        obtain rfl := Option.some.inj hy'
        rw [ret_if]
        refine ⟨fun h => ⟨_, rfl, .inr ⟨_, rfl, ?_⟩⟩, fun h => ⟨_, rfl, .inr ⟨_, rfl, ?_⟩⟩⟩
        · rw [if_pos (lex_lt ha hb hx hy h2 h)]
        · have := lex_lt hb ha hy hx h2.symm (show y < x by omega)
          rw [if_neg (by omega), if_pos this]
    · rintro _ (⟨rfl, h⟩ | ⟨c, rfl, h⟩)
      · refine ⟨_, rfl, ?_⟩
        rw [h, if_neg (by omega), if_neg (by omega)]
      · exact ⟨_, rfl, h⟩
  · rw [ret_if]
    refine ⟨fun h => ⟨_, rfl, ?_⟩, fun h => ⟨_, rfl, ?_⟩⟩
    · rw [if_pos (tm_len ha hb ta tb (by omega))]
    · have := tm_len hb ha tb ta (show b.length < a.length by omega)
      rw [if_neg (by omega), if_pos this]
theorem take_of {a : List Int} {i : Nat} : lv (a.take (i + 1)) = lv (a.take i) + pw i * a.getD i 0 := by
  rcases Nat.lt_or_ge i a.length with h | h
  · rw [take_succ (List.getElem?_eq_getElem h)]; simp [List.getD, h]
  · rw [take_stay h]; simp [List.getD, List.getElem?_eq_none h]
theorem addMag_ok {a b : List Int} (ha : LW a) (hb : LW b) (hn : a.length ≤ 1000) (hm : b.length ≤ 1000) : Ret (sparseref01_addMag a b) (fun r => LW r ∧ r.length ≤ 1001 ∧ lv r = lv a + lv b) := by
  have e : B = 4294967296 := rfl
  obtain ⟨N, hN⟩ : ∃ N : Nat, imax (a.length : Int) (b.length : Int) = (N : Int) ∧ a.length ≤ N ∧ b.length ≤ N ∧ N ≤ 1000 := by
    unfold imax
    split
    · exact ⟨b.length, rfl, by omega, by omega, hm⟩
    · exact ⟨a.length, rfl, by omega, by omega, hn⟩
  obtain ⟨hN, hNa, hNb, hN1⟩ := hN
  unfold sparseref01_addMag
  rw [ret_bind]
  refine (ret_loop (Post := fun s : List Int × Int => LW s.1 ∧ s.1.length = N ∧ (s.2 = 0 ∨ s.2 = 1) ∧ lv s.1 + pw N * s.2 = lv a + lv b) N (fun i (s : List Int × Int × Int) => s.2.2 = (i : Int) ∧ LW s.1 ∧ s.1.length = i ∧ (s.2.1 = 0 ∨ s.2.1 = 1) ∧ lv s.1 + pw i * s.2.1 = lv (a.take i) + lv (b.take i)) ⟨rfl, by intro x hx; simp at hx, rfl, .inl rfl, by simp [lv]⟩ ?_ (by omega)).mono ?_
  · rintro i ⟨o, c, _⟩ hi ⟨rfl, h1, h2, h3, h4⟩
    simp only at h1 h2 h3 h4
    unfold sparseref01_addMag_l5
    simp only
    rw [hN, ret_if]
    refine ⟨fun hlt => ?_, fun hge => ⟨_, rfl, h1, by show o.length = _; omega, h3, ?_⟩⟩
    · have hiN : i < N := by omega
      have fin : ∀ (t : Int), 0 ≤ t → t < 2 * B → t = c + a.getD i 0 + b.getD i 0 → Ret (sparseref01_addMag_j7 o (i : Int) t) (VQ (fun s : List Int × Int × Int => i < N ∧ s.2.2 = ((i + 1 : Nat) : Int) ∧ LW s.1 ∧ s.1.length = i + 1 ∧ (s.2.1 = 0 ∨ s.2.1 = 1) ∧ lv s.1 + pw (i + 1) * s.2.1 = lv (a.take (i + 1)) + lv (b.take (i + 1))) (fun s : List Int × Int => LW s.1 ∧ s.1.length = N ∧ (s.2 = 0 ∨ s.2 = 1) ∧ lv s.1 + pw N * s.2 = lv a + lv b)) := by
        intro t t0 t1 ht
        have hm := Int.emod_nonneg t (show B ≠ 0 by omega)
        have hm2 := Int.emod_lt_of_pos t (show 0 < B by omega)
        have hd := Int.mul_ediv_add_emod t B
        unfold sparseref01_addMag_j7
        rw [wc_u32, wsrc32 t0, ret_bind, ret_app]
        refine ⟨by rw [h2]; simp only [List.length_cons, List.length_nil]; omega, _, rfl, hiN, by show wa .i64 (i : Int) 1 = _; rw [wa_i (by omega) (by omega)]; rfl, LW.app.2 ⟨h1, LW.one.2 ⟨hm, hm2⟩⟩, by show (o ++ [_]).length = _; rw [List.length_append, h2]; rfl, by have q0 : 0 ≤ t / B := Int.ediv_nonneg t0 (by omega); have q1 : t / B < 2 := Int.ediv_lt_of_lt_mul (by omega) t1; show t / B = 0 ∨ t / B = 1; omega, ?_⟩
        show lv (o ++ [t % B]) + pw (i + 1) * (t / B) = _
        rw [lv_snoc, h2, take_of (a := a), take_of (a := b)]
        simp only [pw]
        have e3 : pw i * (B * (t / B) + t % B) = pw i * t := by rw [hd]
        have e4 : B * pw i * (t / B) = pw i * (B * (t / B)) := by grind
        have e5 : pw i * t = pw i * c + pw i * a.getD i 0 + pw i * b.getD i 0 := by rw [ht]; grind
        rw [Int.mul_add] at e3
        omega
      have second : ∀ (t : Int), 0 ≤ t → t < B + 1 → t = c + a.getD i 0 → Ret (sparseref01_addMag_j6 (i : Int) b o t) (VQ (fun s : List Int × Int × Int => i < N ∧ s.2.2 = ((i + 1 : Nat) : Int) ∧ LW s.1 ∧ s.1.length = i + 1 ∧ (s.2.1 = 0 ∨ s.2.1 = 1) ∧ lv s.1 + pw (i + 1) * s.2.1 = lv (a.take (i + 1)) + lv (b.take (i + 1))) (fun s : List Int × Int => LW s.1 ∧ s.1.length = N ∧ (s.2 = 0 ∨ s.2 = 1) ∧ lv s.1 + pw N * s.2 = lv a + lv b)) := by
        intro t t0 t1 ht
        unfold sparseref01_addMag_j6
        rw [ret_if]
        refine ⟨fun hlb => ?_, fun hgb => ?_⟩
        · rw [ret_bind, ret_get]
          refine ⟨by omega, hlb, fun y hy => ?_⟩
          rw [Int.toNat_natCast] at hy
          have hyB := LW.get hb hy
          have hyd : b.getD i 0 = y := by rw [List.getD_eq_getElem?_getD, hy]; rfl
          rw [wc_u64_in ⟨hyB.1, by omega⟩, wa_u64 ⟨by omega, by omega⟩]
          exact fin _ (by omega) (by omega) (by rw [ht, hyd])
        · have hyd : b.getD i 0 = 0 := by rw [List.getD_eq_getElem?_getD, List.getElem?_eq_none (by omega)]; rfl
          exact fin _ t0 (by omega) (by rw [ht, hyd, Int.add_zero])
      rw [ret_if]
      refine ⟨fun hla => ?_, fun hga => ?_⟩
      · rw [ret_bind, ret_get]
        refine ⟨by omega, hla, fun x hx => ?_⟩
        rw [Int.toNat_natCast] at hx
        have hxB := LW.get ha hx
        have hxd : a.getD i 0 = x := by rw [List.getD_eq_getElem?_getD, hx]; rfl
        rw [wc_u64_in ⟨hxB.1, by omega⟩, wa_u64 ⟨by omega, by omega⟩]
        exact second _ (by omega) (by omega) (by rw [hxd])
      · have hxd : a.getD i 0 = 0 := by rw [List.getD_eq_getElem?_getD, List.getElem?_eq_none (by omega)]; rfl
        exact second _ (by omega) (by omega) (by rw [hxd, Int.add_zero])
    · have ei : i = N := by omega
      subst ei
      rw [take_all hNa, take_all hNb] at h4
      exact h4
  · rintro ⟨o, c⟩ ⟨h1, h2, h3, h4⟩
    simp only at h1 h2 h3 h4 ⊢
    have hc : wc .u32 c = c := wc_u32_in ⟨by omega, by omega⟩
    have hlw : LW (o ++ [c]) := LW.app.2 ⟨h1, LW.one.2 ⟨by omega, by omega⟩⟩
    rw [hc, ret_bind, ret_app]
    refine ⟨by rw [h2]; simp only [List.length_cons, List.length_nil]; omega, _, rfl, hlw, by rw [List.length_append, h2]; simp; omega, by rw [lv_snoc, h2]; exact h4⟩
theorem sub_top {v : Int} (h0 : -B ≤ v) (h1 : v < B) : ((v % 18446744073709551616) % B = v + B * (if v < 0 then 1 else 0)) ∧ ((v % 18446744073709551616) / 9223372036854775808 = if v < 0 then 1 else 0) := by
  unfold B at *
  split <;> omega
theorem subMag_ok {a b : List Int} (ha : LW a) (hb : LW b) (hn : a.length ≤ 1000) (hl : b.length ≤ a.length) (hv : lv b ≤ lv a) : Ret (sparseref01_subMag a b) (fun r => LW r ∧ r.length ≤ 1001 ∧ lv r = lv a - lv b) := by
  have e : B = 4294967296 := rfl
  unfold sparseref01_subMag
  rw [ret_bind]
  refine (ret_loop (Post := fun o : List Int => LW o ∧ o.length = a.length ∧ lv o = lv a - lv b) a.length (fun i (s : List Int × Int × Int) => s.2.2 = (i : Int) ∧ LW s.1 ∧ s.1.length = i ∧ (s.2.1 = 0 ∨ s.2.1 = 1) ∧ lv s.1 = lv (a.take i) - lv (b.take i) + pw i * s.2.1) ⟨rfl, by intro x hx; simp at hx, rfl, .inl rfl, by simp [lv]⟩ ?_ (by omega)).mono fun o h => ⟨_, rfl, h.1, by omega, h.2.2⟩
  rintro i ⟨o, c, _⟩ hi ⟨rfl, h1, h2, h3, h4⟩
  simp only at h1 h2 h3 h4
  unfold sparseref01_subMag_l3 sparseref01_subMag_j4
  simp only
  rw [ret_if]
  refine ⟨fun hlt => ?_, fun hge => ⟨_, rfl, h1, by show o.length = _; omega, ?_⟩⟩
  · have hia : i < a.length := by omega
    rw [ret_bind, ret_get]
    refine ⟨by omega, hlt, fun x hx => ?_⟩
    rw [Int.toNat_natCast] at hx
    have hxB := LW.get ha hx
    have hcx : wc .u64 x = x := wc_u64_in ⟨hxB.1, by omega⟩
    have hts := take_succ hx
    have fin : ∀ (t v : Int), t = v % 18446744073709551616 → -B ≤ v → v < B → lv o + pw i * v = lv (a.take (i + 1)) - lv (b.take (i + 1)) → Ret ((app o [wc .u32 t]).bind fun x39 => some (Sum.inl (β := List Int) (x39, wsrc .u64 t 63, wa .i64 (i : Int) 1))) (VQ (fun s : List Int × Int × Int => i < a.length ∧ s.2.2 = ((i + 1 : Nat) : Int) ∧ LW s.1 ∧ s.1.length = i + 1 ∧ (s.2.1 = 0 ∨ s.2.1 = 1) ∧ lv s.1 = lv (a.take (i + 1)) - lv (b.take (i + 1)) + pw (i + 1) * s.2.1) (fun o : List Int => LW o ∧ o.length = a.length ∧ lv o = lv a - lv b)) := by
      intro t v ht v0 v1 hv
      obtain ⟨k1, k2⟩ := sub_top v0 v1
      rw [← ht] at k1 k2
      have k3 : 0 ≤ t := by rw [ht]; exact Int.emod_nonneg _ (by omega)
      have hm := Int.emod_nonneg t (show B ≠ 0 by omega)
      have hm2 := Int.emod_lt_of_pos t (show 0 < B by omega)
      rw [wc_u32, wsrc63 k3, k2, ret_bind, ret_app]
      refine ⟨by rw [h2]; simp only [List.length_cons, List.length_nil]; omega, _, rfl, hia, by show wa .i64 (i : Int) 1 = _; rw [wa_i (by omega) (by omega)]; rfl, LW.app.2 ⟨h1, LW.one.2 ⟨hm, hm2⟩⟩, by show (o ++ [_]).length = _; rw [List.length_append, h2]; rfl, by show (if v < 0 then (1 : Int) else 0) = 0 ∨ (if v < 0 then (1 : Int) else 0) = 1; split <;> omega, ?_⟩
      show lv (o ++ [t % B]) = _ + pw (i + 1) * (if v < 0 then 1 else 0)
      rw [lv_snoc, h2, k1, ← hv]
      simp only [pw]
      generalize (if v < 0 then (1 : Int) else 0) = z
      grind
    rw [ret_if]
    refine ⟨fun hlb => ?_, fun hgb => ?_⟩
    · rw [ret_bind, ret_get]
      refine ⟨by omega, hlb, fun y hy => ?_⟩
      rw [Int.toNat_natCast] at hy
      have hyB := LW.get hb hy
      refine fin _ (x - c - y) ?_ (by omega) (by omega) ?_
      · rw [hcx, wc_u64_in ⟨hyB.1, by omega⟩, ws_u64, ws_u64]; omega
      · rw [hts, take_succ hy, h4]; grind
    · refine fin _ (x - c) ?_ (by omega) (by omega) ?_
      · rw [hcx, ws_u64]
      · rw [hts, take_stay (a := b) (by omega), h4]; grind
  · have ei : i = a.length := by omega
    subst ei
    rw [List.take_length, take_all hl] at h4
    have hlt := lv_lt h1
    rw [h2] at hlt
    have hp := pw_pos a.length
    show lv o = _
    rcases h3 with rfl | rfl
    · omega
    · omega
end Km
/- The paper's division by one limb. -/
namespace Km
open Sx Go M Vc Lm
theorem shl_ok {a : List Int} (ha : LW a) (hn : a.length ≤ 1000) {s : Nat} (hs : s < 32) : Ret (sparseref01_shl a (s : Int)) (fun u => LW u ∧ u.length = a.length + 1 ∧ lv u = lv a * 2 ^ s) := by
  have e : B = 4294967296 := rfl
  have hq : wqc .i64 (s : Int) 32 = 0 := by
    show IntKind.wrap .i64 (Int.tdiv (s : Int) 32) = 0
    rw [Int.tdiv_eq_ediv_of_nonneg (by omega), Int.ediv_eq_zero_of_lt (by omega) (by omega)]; rfl
  have hr : wrc (s : Int) 32 = (s : Int) := by
    show Int.tmod (s : Int) 32 = _
    rw [Int.tmod_eq_emod_of_nonneg (by omega), Int.emod_eq_of_lt (by omega) (by omega)]
  have hP : 0 < (2 : Int) ^ s := Int.pow_pos (by omega)
  have hP2 : (2 : Int) ^ s ≤ 2 ^ 31 := by
    have : (2 : Nat) ^ s ≤ 2 ^ 31 := Nat.pow_le_pow_right (by omega) (by omega)
    exact_mod_cast this
  unfold sparseref01_shl
  rw [hq, ret_bind, ret_mkL]
  refine ⟨by omega, by omega, ?_⟩
  rw [ret_bind]
  refine (ret_loop (Post := fun s' : List Int × Int => LW s'.1 ∧ s'.1.length = a.length ∧ (0 ≤ s'.2 ∧ s'.2 < 2 ^ s) ∧ lv s'.1 + pw a.length * s'.2 = lv a * 2 ^ s) a.length (fun i (s' : List Int × Int × Int) => s'.2.2 = (i : Int) ∧ LW s'.1 ∧ s'.1.length = i ∧ (0 ≤ s'.2.1 ∧ s'.2.1 < 2 ^ s) ∧ lv s'.1 + pw i * s'.2.1 = lv (a.take i) * 2 ^ s) ⟨rfl, by intro x hx; simp at hx, rfl, ⟨by show (0 : Int) ≤ 0; omega, hP⟩, by simp [lv]⟩ ?_ (by omega)).mono ?_
  · rintro i ⟨o, c, _⟩ hi ⟨rfl, h1, h2, h3, h4⟩
    simp only at h1 h2 h3 h4
    unfold sparseref01_shl_l1
    simp only
    rw [ret_if, hr]
    refine ⟨fun hlt => ?_, fun hge => ⟨_, rfl, h1, by show o.length = _; omega, h3, by have ei : i = a.length := (by omega); subst ei; rw [List.take_length] at h4; exact h4⟩⟩
    have hia : i < a.length := by omega
    rw [ret_bind, ret_get]
    refine ⟨by omega, hlt, fun x hx => ?_⟩
    rw [Int.toNat_natCast] at hx
    have hxB := LW.get ha hx
    have hx2 : 0 ≤ x * 2 ^ s := Int.mul_nonneg hxB.1 (by omega)
    have hx3 : x * 2 ^ s ≤ (B - 1) * 2 ^ s := Int.mul_le_mul_of_nonneg_right (by omega) (by omega)
    have hx4 : (B - 1) * 2 ^ s ≤ (B - 1) * 2 ^ 31 := Int.mul_le_mul_of_nonneg_left hP2 (by omega)
    have hsh : wshl .u64 (wc .u64 x) (s : Int) = some (x * 2 ^ s) := by
      rw [wc_u64_in ⟨hxB.1, by omega⟩]
      unfold wshl
      rw [if_neg (by omega), Int.toNat_natCast]
      show some (IntKind.u64.wrap (x * 2 ^ min s 64)) = _
      rw [Nat.min_eq_left (by omega), IntWalk.u64_in _ ⟨hx2, by omega⟩]
    -- the carry fills the low bits
    have hor : wor .u64 c (x * 2 ^ s) = c + x * 2 ^ s := by
      unfold wor
      obtain ⟨C, rfl⟩ := Int.eq_ofNat_of_zero_le h3.1
      obtain ⟨X, rfl⟩ := Int.eq_ofNat_of_zero_le hxB.1
      have hC : C < 2 ^ s := by exact_mod_cast h3.2
      have e2 : ((X : Int) * 2 ^ s) = ((2 ^ s * X : Nat) : Int) := by push_cast; rw [Int.mul_comm]
      have hb : 2 ^ s * X < 18446744073709551616 := by have h9 : ((2 ^ s * X : Nat) : Int) < ((18446744073709551616 : Nat) : Int) := (by rw [← e2]; omega); exact Int.ofNat_lt.1 h9
      have hCb : C < 18446744073709551616 := by omega
      have e3 : (BitVec.ofInt 64 (C : Int) ||| BitVec.ofInt 64 ((X : Int) * 2 ^ s)).toNat = 2 ^ s * X + C := by
        rw [BitVec.toNat_or, bv64 (by omega), bv64 (by omega), e2, Int.toNat_natCast, Int.toNat_natCast, Nat.or_comm, ← Nat.two_pow_add_eq_or_of_lt hC]
      show IntKind.u64.wrap ((BitVec.ofInt 64 (C : Int) ||| BitVec.ofInt 64 ((X : Int) * 2 ^ s)).toNat : Int) = _
      rw [e3, IntWalk.u64_in _ ⟨by omega, by omega⟩, e2]
      push_cast
      omega
    rw [hsh, obs, hor]
    have t0 : 0 ≤ c + x * 2 ^ s := by omega
    have hm := Int.emod_nonneg (c + x * 2 ^ s) (show B ≠ 0 by omega)
    have hm2 := Int.emod_lt_of_pos (c + x * 2 ^ s) (show 0 < B by omega)
    have hd := Int.mul_ediv_add_emod (c + x * 2 ^ s) B
    have q0 : 0 ≤ (c + x * 2 ^ s) / B := Int.ediv_nonneg t0 (by omega)
    have q1 : (c + x * 2 ^ s) / B < 2 ^ s := by
      refine Int.ediv_lt_of_lt_mul (by omega) ?_
      have : (B - 1) * 2 ^ s = 2 ^ s * B - 2 ^ s := by grind
      omega
    rw [wc_u32, wsrc32 t0, ret_bind, ret_app]
    refine ⟨by rw [h2]; simp only [List.length_cons, List.length_nil]; omega, _, rfl, hia, by show wa .i64 (i : Int) 1 = _; rw [wa_i (by omega) (by omega)]; rfl, LW.app.2 ⟨h1, LW.one.2 ⟨hm, hm2⟩⟩, by show (o ++ [_]).length = _; rw [List.length_append, h2]; rfl, ⟨q0, q1⟩, ?_⟩
    show lv (o ++ [(c + x * 2 ^ s) % B]) + pw (i + 1) * ((c + x * 2 ^ s) / B) = _
    rw [lv_snoc, h2, take_succ hx]
    simp only [pw]
    have e3 : pw i * (B * ((c + x * 2 ^ s) / B) + (c + x * 2 ^ s) % B) = pw i * (c + x * 2 ^ s) := by rw [hd]
    have e4 : B * pw i * ((c + x * 2 ^ s) / B) = pw i * (B * ((c + x * 2 ^ s) / B)) := by grind
    have e5 : pw i * (c + x * 2 ^ s) = pw i * c + pw i * x * 2 ^ s := by grind
    rw [Int.mul_add] at e3
    rw [Int.add_mul]
    omega
  · rintro ⟨o, c⟩ ⟨h1, h2, h3, h4⟩
    simp only at h1 h2 h3 h4 ⊢
    have hc : wc .u32 c = c := wc_u32_in ⟨h3.1, by omega⟩
    rw [hc, ret_bind, ret_app]
    exact ⟨by rw [h2]; simp only [List.length_cons, List.length_nil]; omega, _, rfl, LW.app.2 ⟨h1, LW.one.2 ⟨h3.1, by omega⟩⟩, by rw [List.length_append, h2]; rfl, by rw [lv_snoc, h2]; exact h4⟩
end Km
/- The paper's Int, Sign, Add. -/
namespace Km
open Sx Go M Vc Lm
theorem intR_ok {r : Int} (h0 : 0 ≤ r) (h1 : r < B) {l : List Int} (hl : LW l) (ht : Tm l) (he : lv l = r) : sparseref01_Int false l = some (r, true) := by
  have e : B = 4294967296 := rfl
  have hl2 : l = if r = 0 then [] else [r] := by
    refine tm_inj hl ?_ ht ?_ ?_
    · intro x hx; split at hx
      · simp at hx
      · simp at hx; omega
    · split
      · exact tm_nil
      · rename_i h; intro x hx; simp at hx; omega
    · rw [he]; split
      · rename_i h; rw [h]; rfl
      · simp [lv]
  refine Ret.eq ?_
  unfold sparseref01_Int
  rw [norm_ok false hl (by rw [hl2]; split <;> simp), obs, trimL_of hl ht, hl2]
  simp only [Bool.false_and]
  by_cases hz : r = 0
  · subst hz
    rw [if_pos rfl, if_neg (by simp), ret_bind]
    refine (ret_loop (Post := fun u : Int => u = 0) 0 (fun k (s : Int × Int) => s = (0, 0)) rfl ?_ (by omega)).mono ?_
    · rintro k _ hk rfl
      exact ⟨_, rfl, rfl⟩
    · rintro _ rfl
      exact ⟨_, rfl, rfl⟩
  · rw [if_neg hz, if_neg (by simp), ret_bind]
    refine (ret_loop (Post := fun u : Int => u = r) 1 (fun k (s : Int × Int) => s = (if k = 0 then 0 else r, (k : Int))) rfl ?_ (by omega)).mono ?_
    · rintro k _ hk rfl
      unfold sparseref01_Int_l1
      simp only
      rw [ret_if]
      refine ⟨fun hlt => ?_, fun hge => ?_⟩
      · simp at hlt
        obtain rfl : k = 0 := by omega
        rw [ret_bind, ret_get]
        refine ⟨by omega, by simp, fun x hx => ?_⟩
        have hx : r = x := by simpa using hx
        subst hx
        have hwm : wm .i64 32 ((0 : Nat) : Int) = 0 := by rw [wm_i (by omega) (by omega)]; rfl
        have hws : wshl .u64 (wc .u64 r) 0 = some r := by
          rw [wc_u64_in ⟨h0, by omega⟩]
          unfold wshl
          rw [if_neg (by omega)]
          show some (IntKind.u64.wrap (r * 2 ^ (min (0 : Int).toNat 64))) = _
          rw [show (2 : Int) ^ (min (0 : Int).toNat 64) = 1 from rfl, Int.mul_one, IntWalk.u64_in _ ⟨h0, by omega⟩]
        rw [hwm, hws, obs]
        have hor : wor .u64 0 r = r := by
          have := wor_hi (x := 0) (y := r) ⟨by omega, by omega⟩ ⟨h0, h1⟩
          rw [Int.zero_mul, Int.zero_add] at this
          exact this
        refine ⟨_, rfl, by omega, ?_⟩
        rw [if_pos rfl, hor, if_neg (by omega), wa_i (by omega) (by omega)]
        rfl
      · simp at hge
        refine ⟨_, rfl, ?_⟩
        show (if k = 0 then (0 : Int) else r) = r
        rw [if_neg (by omega)]
    · rintro _ rfl
      rw [if_neg (by simp), if_neg (by omega)]
      refine ⟨_, rfl, ?_⟩
      rw [wc_i64_in ⟨by omega, by omega⟩]
theorem sign_ok {l : List Int} (s : Bool) (hl : LW l) (ht : Tm l) (hn : l.length ≤ 1000) : sparseref01_Sign s l = some (if l = [] then 0 else if s = true then -1 else 1) := by
  unfold sparseref01_Sign
  rw [norm_ok s hl (by omega), obs, trimL_of hl ht]
  simp only
  by_cases h : l = []
  · rw [if_pos (by rw [h]; rfl), if_pos h]
  · have hp := List.length_pos_iff.2 h
    rw [if_neg (by omega), if_neg h]
    have : decide ((0 : Int) < (l.length : Int)) = true := by simp; exact hp
    rw [this, Bool.and_true]
    split <;> rfl
theorem add_ok {a b : List Int} (s t : Bool) (ha : LW a) (hb : LW b) (hn : a.length ≤ 900) (hm : b.length ≤ 900) : Ret (sparseref01_Add s a t b) (fun r => LW r.2 ∧ Tm r.2 ∧ r.2.length ≤ 1001 ∧ (s = true → t = false → lv a < lv b → r.1 = false ∧ lv r.2 = lv b - lv a)) := by
  have la := trimL_len ha
  have lb := trimL_len hb
  have ta := trimL_lw ha
  have tb := trimL_lw hb
  have va := trimL_lv a
  have vb := trimL_lv b
  unfold sparseref01_Add
  rw [trimR_ok ha (by omega), obs, trimR_ok hb (by omega), obs, ret_if]
  have mk : ∀ (u : Bool) {r : List Int}, LW r → r.length ≤ 1001 → Ret ((sparseref01_make1 u r).bind fun r17 => some (r17.1, r17.2)) (fun x : Bool × List Int => LW x.2 ∧ Tm x.2 ∧ x.2.length ≤ 1001 ∧ lv x.2 = lv r ∧ (u = false → x.1 = false)) := by
    intro u r hr hrl
    rw [make1_ok u hr (by omega), obs]
    have := trimL_len hr
    exact ⟨_, rfl, trimL_lw hr, trimL_tm r, by show (trimL r).length ≤ 1001; omega, trimL_lv r, fun h => by rw [h]; rfl⟩
  refine ⟨fun hst => ?_, fun hst => ?_⟩
  · rw [ret_bind]
    refine (addMag_ok ta tb (by omega) (by omega)).mono fun r hr => ?_
    refine (mk s hr.1 hr.2.1).mono fun x hx => ⟨hx.1, hx.2.1, hx.2.2.1, fun h1 h2 _ => ?_⟩
    rw [h1, h2] at hst; cases hst
  · rw [cmpMag_ok ta tb (trimL_tm a) (trimL_tm b) (by omega) (by omega), obs, va, vb, ret_if]
    refine ⟨fun h => ?_, fun h => ?_⟩
    · have hle : lv b ≤ lv a := by
        refine Classical.byContradiction fun hc => ?_
        rw [if_pos (by omega)] at h; omega
      rw [ret_bind]
      have hll : (trimL b).length ≤ (trimL a).length := by
        refine Classical.byContradiction fun hc => ?_
        have := tm_len ta tb (trimL_tm a) (trimL_tm b) (by omega)
        omega
      refine (subMag_ok ta tb (by omega) hll (by omega)).mono fun r hr => ?_
      refine (mk s hr.1 hr.2.1).mono fun x hx => ⟨hx.1, hx.2.1, hx.2.2.1, fun _ _ h3 => absurd h3 (by omega)⟩
    · have hlt : lv a < lv b := by
        refine Classical.byContradiction fun hc => ?_
        rw [if_neg hc] at h
        split at h <;> omega
      rw [ret_bind]
      have hll : (trimL a).length ≤ (trimL b).length := by
        refine Classical.byContradiction fun hc => ?_
        have := tm_len tb ta (trimL_tm b) (trimL_tm a) (by omega)
        omega
      refine (subMag_ok tb ta (by omega) hll (by omega)).mono fun r hr => ?_
      refine (mk t hr.1 hr.2.1).mono fun x hx => ⟨hx.1, hx.2.1, hx.2.2.1, fun _ h2 _ => ⟨hx.2.2.2.2 h2, by rw [hx.2.2.2.1, hr.2.2, va, vb]⟩⟩
end Km
/- Remainders, powers, inverses, rows and tables: what the program's small loops compute. -/
namespace Km
open Sx Go M Vc Dt
/-- a loop that comes to an end -/
theorem ret_loopM {τ ρ : Type} {step : τ → Option (τ ⊕ ρ)} {Post : ρ → Prop} (I : τ → Prop) (μ : τ → Nat) {s : τ} (h0 : I s) (hμ : μ s < 1099511627776)
    (h : ∀ t, I t → Ret (step t) (VQ (fun t' => I t' ∧ μ t' < μ t) Post)) : Ret (loop step s) Post := by
  have key : ∀ (fuel : Nat) (t : τ), μ t < fuel → I t → Ret (loopN step fuel t) Post := by
    intro fuel
    induction fuel with
    | zero => intro t h1; omega
    | succ n ih =>
      intro t h1 h2
      obtain ⟨x, hx, h3⟩ := h t h2
      cases x with
      | inr r => exact ⟨r, by simp [loopN, hx], h3⟩
      | inl t' =>
        obtain ⟨h4, h5⟩ := h3
        obtain ⟨y, hy, hp⟩ := ih t' (by omega) h4
        exact ⟨y, by simp [loopN, hx, hy], hp⟩
  exact key FUEL s hμ h0
/-- a modulus -/
structure PP (p : Int) : Prop where
  two : 2 ≤ p
  max : p ≤ 2147483647
  prm : Nt.Prm p.toNat
theorem tmod_nn {x p : Int} (h : 0 ≤ x) : x.tmod p = x % p := Int.tmod_eq_emod_of_nonneg h
theorem wr_nn {x p : Int} (h : 0 ≤ x) (hp : 0 < p) : wr x p = some (x % p) := by
  unfold wr; rw [if_neg (by omega), tmod_nn h]
theorem mod_rng {p : Int} (x : Int) (hp : 0 < p) : 0 ≤ x % p ∧ x % p < p := ⟨Int.emod_nonneg _ (by omega), Int.emod_lt_of_pos _ hp⟩
theorem emod_of {a p z k : Int} (h : a = z + p * k) (h0 : 0 ≤ z) (h1 : z < p) : z = a % p := by rw [h, Int.add_mul_emod_self_left, Int.emod_eq_of_lt h0 h1]
theorem mod_ok {a p : Int} (hp : 0 < p) (hm : p ≤ 2147483647) : modular_mod a p = some (a % p) := by
  unfold modular_mod wr modular_mod_j1
  rw [if_neg (by omega), obs]
  have h1 := Int.lt_tmod_of_pos a hp
  have h2 := Int.tmod_lt_of_pos a hp
  have h3 := Int.mul_tdiv_add_tmod a p
  split
  · rw [wa_i (by omega) (by omega)]
    refine congrArg some (emod_of (k := a.tdiv p - 1) ?_ (by omega) (by omega))
    rw [Int.mul_sub]; omega
  · exact congrArg some (emod_of (k := a.tdiv p) (by omega) (by omega) h2)
theorem mul_rng {p x y : Int} (hm : p ≤ 2147483647) (hx : 0 ≤ x ∧ x < p) (hy : 0 ≤ y ∧ y < p) : 0 ≤ x * y ∧ x * y ≤ 4611686014132420609 :=
  ⟨Int.mul_nonneg hx.1 hy.1, by have := Int.mul_le_mul (show x ≤ 2147483647 by omega) (show y ≤ 2147483647 by omega) hy.1 (by omega); omega⟩
theorem wmr {p x y : Int} (hm : p ≤ 2147483647) (hx : 0 ≤ x ∧ x < p) (hy : 0 ≤ y ∧ y < p) : wr (wm .i64 x y) p = some (x * y % p) := by
  have := mul_rng hm hx hy
  rw [wm_i (by omega) (by omega), wr_nn this.1 (by omega)]
/-- the binary power -/
theorem raise_ok {p a : Nat} (hp : 1 < p) (hm : p ≤ 2147483647) (ha : a < p) {n : Nat} (hn : n < 1099511627776) : modular_raise (a : Int) (n : Int) (p : Int) = some ((a ^ n % p : Nat) : Int) := by
  refine Ret.eq ?_
  unfold modular_raise
  rw [ret_bind]
  refine (ret_loopM (Post := fun o => o = ((a ^ n % p : Nat) : Int)) (fun (s : Int × Int × Int) => ∃ A m O : Nat, s = ((A : Int), (m : Int), (O : Int)) ∧ A < p ∧ O < p ∧ m < 1099511627776 ∧ O * A ^ m % p = a ^ n % p) (fun s => s.2.1.toNat) ⟨a, n, 1, rfl, ha, hp, hn, by rw [Nat.one_mul]⟩ (by show ((n : Int)).toNat < _; omega) ?_).mono ?_
  · rintro _ ⟨A, m, O, rfl, hA, hO, hm2, hI⟩
    unfold modular_raise_l3
    simp only
    have hAA := mul_rng (p := p) (x := A) (y := A) (by omega) ⟨by omega, by omega⟩ ⟨by omega, by omega⟩
    have hOA := mul_rng (p := p) (x := O) (y := A) (by omega) ⟨by omega, by omega⟩ ⟨by omega, by omega⟩
    have e1 : wr (wm .i64 (A : Int) (A : Int)) (p : Int) = some ((A * A % p : Nat) : Int) := by rw [wmr (by omega) ⟨by omega, by omega⟩ ⟨by omega, by omega⟩]; simp
    have e2 : wr (wm .i64 (O : Int) (A : Int)) (p : Int) = some ((O * A % p : Nat) : Int) := by rw [wmr (by omega) ⟨by omega, by omega⟩ ⟨by omega, by omega⟩]; simp
    have e3 : wrc (m : Int) 2 = ((m % 2 : Nat) : Int) := by show Int.tmod (m : Int) 2 = _; rw [tmod_nn (by omega)]; omega
    have e4 : wqc .i64 (m : Int) 2 = ((m / 2 : Nat) : Int) := by
      show IntKind.wrap .i64 (Int.tdiv (m : Int) 2) = _
      rw [Int.tdiv_eq_ediv_of_nonneg (by omega), IntWalk.i64_in _ ⟨by omega, by omega⟩]; omega
    have hlt : ∀ z : Nat, z % p < p := fun z => Nat.mod_lt _ (by omega)
    rw [ret_if]
    refine ⟨fun h0 => ?_, fun h0 => ?_⟩
    · rw [e3, ret_if]
      refine ⟨fun h1 => ?_, fun h1 => ?_⟩
      · rw [e2, obs]
        unfold modular_raise_j4
        rw [e1, obs, e4]
        refine ⟨_, rfl, ⟨_, _, _, rfl, hlt _, hlt _, by omega, ?_⟩, by show ((m / 2 : Nat) : Int).toNat < ((m : Int)).toNat; omega⟩
        rw [Nt.pow_odd (by omega)]; exact hI
      · unfold modular_raise_j4
        rw [e1, obs, e4]
        refine ⟨_, rfl, ⟨_, _, _, rfl, hlt _, hO, by omega, ?_⟩, by show ((m / 2 : Nat) : Int).toNat < ((m : Int)).toNat; omega⟩
        rw [Nt.pow_even (by omega)]; exact hI
    · refine ⟨_, rfl, ?_⟩
      obtain rfl : m = 0 := by omega
      rw [Nat.pow_zero, Nat.mul_one, Nat.mod_eq_of_lt hO] at hI
      show (O : Int) = _
      rw [hI]
  · rintro _ rfl
    exact ⟨_, rfl, rfl⟩
theorem inverse_ok {p a : Int} (hp : PP p) (ha : 0 < a ∧ a < p) : ∃ f, modular_inverse a p = some f ∧ (0 ≤ f ∧ f < p) ∧ a * f % p = 1 := by
  have h2 := hp.two
  have h3 := hp.max
  obtain ⟨P, rfl⟩ := Int.eq_ofNat_of_zero_le (show 0 ≤ p by omega)
  obtain ⟨A, rfl⟩ := Int.eq_ofNat_of_zero_le (show 0 ≤ a by omega)
  refine ⟨((A ^ (P - 2) % P : Nat) : Int), ?_, ⟨by omega, ?_⟩, ?_⟩
  · unfold modular_inverse
    rw [ws_i (by omega) (by omega), show (P : Int) - 2 = ((P - 2 : Nat) : Int) by omega, raise_ok (by omega) (by omega) (by omega) (by omega), obs]
  · have := Nat.mod_lt (A ^ (P - 2)) (show P > 0 by omega); omega
  · have := Nt.inv_ok hp.prm (a := A) (by omega) (by simpa using (show A < P by omega))
    rw [Int.toNat_natCast] at this
    exact_mod_cast this
/-- a row told by a function -/
def Ln (l : List Int) (w : Nat) (f : Nat → Int) : Prop := l.length = w ∧ ∀ c, c < w → l[c]? = some (f c)
/-- a table told by a matrix -/
def Tb (T : List (List Int)) (n w : Nat) (A : Mx) : Prop := T.length = n ∧ ∀ r, r < n → ∃ l, T[r]? = some l ∧ Ln l w (A r)
theorem Ln.congr {l : List Int} {w : Nat} {f g : Nat → Int} (h : Ln l w f) (e : ∀ c, c < w → f c = g c) : Ln l w g := ⟨h.1, fun c hc => by rw [h.2 c hc, e c hc]⟩
theorem Ln.set {l : List Int} {w : Nat} {f : Nat → Int} (h : Ln l w f) {c : Nat} (hc : c < w) (x : Int) : Ln (l.set c x) w (fun j => if j = c then x else f j) := by
  refine ⟨by rw [List.length_set]; exact h.1, fun j hj => ?_⟩
  rw [List.getElem?_set]
  by_cases e : c = j
  · subst e
    show _ = some (if c = c then x else f c)
    rw [if_pos rfl, if_pos (by rw [h.1]; exact hc), if_pos rfl]
  · show _ = some (if j = c then x else f j)
    rw [if_neg e, if_neg (Ne.symm e)]; exact h.2 j hj
theorem Tb.congr {T : List (List Int)} {n w : Nat} {A B : Mx} (h : Tb T n w A) (e : ∀ r c, r < n → c < w → A r c = B r c) : Tb T n w B := ⟨h.1, fun r hr => by obtain ⟨l, h1, h2⟩ := h.2 r hr; exact ⟨l, h1, h2.congr fun c hc => e r c hr hc⟩⟩
theorem Tb.set {T : List (List Int)} {n w : Nat} {A : Mx} (h : Tb T n w A) {k : Nat} (hk : k < n) {l : List Int} {g : Nat → Int} (hl : Ln l w g) : Tb (T.set k l) n w (up A k g) := by
  refine ⟨by rw [List.length_set]; exact h.1, fun r hr => ?_⟩
  rw [List.getElem?_set]
  by_cases e : k = r
  · subst e; rw [if_pos rfl, if_pos (by rw [h.1]; exact hk)]; exact ⟨l, rfl, hl.congr fun c _ => up_in.symm⟩
  · rw [if_neg e]; obtain ⟨m, h1, h2⟩ := h.2 r hr; exact ⟨m, h1, h2.congr fun c _ => (up_out fun e' => e e'.symm).symm⟩
theorem Ln.get {l : List Int} {w : Nat} {f : Nat → Int} (h : Ln l w f) {c : Nat} (hc : c < w) {Q : Int → Prop} (hQ : Q (f c)) : Ret (getI l (c : Int)) Q := by
  rw [ret_get]
  refine ⟨by omega, by rw [h.1]; omega, fun x hx => ?_⟩
  rw [Int.toNat_natCast, h.2 c hc] at hx
  obtain rfl := Option.some.inj hx
  exact hQ
theorem Tb.get {T : List (List Int)} {n w : Nat} {A : Mx} (h : Tb T n w A) {r : Nat} (hr : r < n) {Q : List Int → Prop} (hQ : ∀ l, T[r]? = some l → Ln l w (A r) → Q l) : Ret (getI T (r : Int)) Q := by
  rw [ret_get]
  refine ⟨by omega, by rw [h.1]; omega, fun x hx => ?_⟩
  rw [Int.toNat_natCast] at hx
  obtain ⟨l, h1, h2⟩ := h.2 r hr
  rw [h1] at hx
  obtain rfl := Option.some.inj hx
  exact hQ l h1 h2
end Km
/- Signed numbers of limbs: values, normal form, lengths. -/
namespace Km
open Sx Go M Vc Lm
def sv (s : Bool) (l : List Int) : Int := if s = true then - lv l else lv l
def Bg (v : Int) (s : Bool) (l : List Int) : Prop := LW l ∧ Tm l ∧ sv s l = v ∧ (s = true → l ≠ [])
theorem sv_trim (s : Bool) (l : List Int) : sv s (trimL l) = sv s l := by unfold sv; rw [trimL_lv]
theorem sv_not (s : Bool) (l : List Int) : sv (!s) l = - sv s l := by unfold sv; cases s <;> simp
theorem Bg.pos {v : Int} {s : Bool} {l : List Int} (h : Bg v s l) (hs : s = true) : 0 < lv l := by
  have h1 := lv_nn h.1
  have h2 : lv l ≠ 0 := fun h0 => h.2.2.2 hs ((lv_zero h.1 h.2.1).1 h0)
  omega
theorem Bg.neg {v : Int} {s : Bool} {l : List Int} (h : Bg v s l) : s = true ↔ v < 0 := by
  have h1 := lv_nn h.1
  have h3 := h.2.2.1
  constructor
  · intro hs
    have := h.pos hs
    unfold sv at h3; rw [if_pos hs] at h3; omega
  · intro hv
    refine Classical.byContradiction fun hs => ?_
    unfold sv at h3; rw [if_neg hs] at h3; omega
theorem Bg.abs {v : Int} {s : Bool} {l : List Int} (h : Bg v s l) : lv l = if v < 0 then - v else v := by
  have h3 := h.2.2.1
  by_cases hs : s = true
  · rw [if_pos (h.neg.1 hs)]; unfold sv at h3; rw [if_pos hs] at h3; omega
  · rw [if_neg fun hv => hs (h.neg.2 hv)]; unfold sv at h3; rw [if_neg hs] at h3; exact h3
theorem Bg.uniq {v : Int} {s s' : Bool} {l l' : List Int} (h : Bg v s l) (h' : Bg v s' l') : s = s' ∧ l = l' := by
  refine ⟨?_, tm_inj h.1 h'.1 h.2.1 h'.2.1 (h.abs.trans h'.abs.symm)⟩
  have e : s = true ↔ s' = true := h.neg.trans h'.neg.symm
  cases s <;> cases s' <;> simp_all
theorem Bg.len {v : Int} {s : Bool} {l : List Int} (h : Bg v s l) {m : Nat} (h1 : - pw m < v) (h2 : v < pw m) : l.length ≤ m := by
  refine len_le h.1 h.2.1 ?_
  rw [h.abs]; split <;> omega
theorem Bg.of {s : Bool} {l : List Int} (hl : LW l) (ht : Tm l) (hs : s = true → l ≠ []) : Bg (sv s l) s l := ⟨hl, ht, rfl, hs⟩
theorem Bg.cast {v w : Int} {s : Bool} {l : List Int} (h : Bg v s l) (e : v = w) : Bg w s l := e ▸ h
theorem bg_zero : Bg 0 false [] := ⟨by intro x hx; simp at hx, tm_nil, rfl, by simp⟩
theorem Bg.sv {v : Int} {s : Bool} {l : List Int} (h : Bg v s l) : sv s l = v := h.2.2.1
theorem lv_set {l : List Int} {k : Nat} {x y : Int} (hx : l[k]? = some x) : lv (l.set k y) = lv l + pw k * (y - x) := by
  have hlt := (List.getElem?_eq_some_iff.1 hx).1
  have hy : (l.set k y)[k]? = some y := by rw [List.getElem?_set_self hlt]
  rw [split_at hx, split_at hy, List.take_set, List.set_eq_of_length_le (by rw [List.length_take]; omega), List.drop_set_of_lt (by omega)]
  grind
theorem lw_set {l : List Int} (h : LW l) {k : Nat} {y : Int} (hy : 0 ≤ y ∧ y < B) : LW (l.set k y) := by
  intro z hz
  rcases List.mem_or_eq_of_mem_set hz with hz | rfl
  · exact h z hz
  · exact hy
theorem lw_zeros (n : Nat) : LW (List.replicate n 0) := fun x hx => by rw [List.mem_replicate] at hx; rw [hx.2]; unfold B; omega
theorem trim_len {l : List Int} (hl : LW l) : (trimL l).length ≤ l.length := trimL_len hl
/-- the normal form of any number -/
theorem Bg.norm {s : Bool} {l : List Int} (hl : LW l) : Bg (Km.sv s l) (if trimL l = [] then false else s) (trimL l) := by
  refine ⟨trimL_lw hl, trimL_tm l, ?_, ?_⟩
  · split
    · rename_i h
      have h0 : lv l = 0 := by rw [← trimL_lv, h]; rfl
      unfold Km.sv
      rw [if_neg (by simp), trimL_lv, h0]; split <;> simp
    · exact sv_trim s l
  · split
    · intro h; simp at h
    · rename_i h; exact fun _ => h
theorem big_bg {l : List Int} (s : Bool) (hl : LW l) (hn : l.length ≤ 1000000) : Ret (integer_big s l) (fun r => Bg (sv s l) r.1 r.2) := by
  rw [big_ok s hl hn]
  have h := Bg.norm (s := s) hl
  split
  · rename_i h0
    rw [if_pos h0, h0] at h
    exact ⟨_, rfl, h⟩
  · rename_i h0
    rw [if_neg h0] at h
    exact ⟨_, rfl, h⟩
theorem clone_ok {a : List Int} (h : a.length ≤ 1000000) : slices_Clone_uint32 a = some a := by
  unfold slices_Clone_uint32 app BIG
  rw [if_pos (by simp; omega), obs, List.nil_append]
theorem normP_bg {s : Bool} {a : List Int} (ha : LW a) (hn : a.length ≤ 1000000) : Ret (integer_Norm s a) (fun r => Bg (sv s a) r.1 r.2) := by
  unfold integer_Norm
  rw [clone_ok hn, obs, ret_bind]
  exact (big_bg s ha hn).mono fun r hr => ⟨_, rfl, hr⟩
end Km
/- Signed numbers of limbs: the program's products, sums, differences, comparisons. -/
namespace Km
open Sx Go M Vc Lm
/-- within a row of the product -/
def MI (a b : List Int) (i j : Nat) (x : Int) (out : List Int) (c : Int) : Prop :=
  LW out ∧ out.length = a.length + b.length ∧ (0 ≤ c ∧ c < B) ∧ lv out + pw (i + j) * c = lv (a.take i) * lv b + pw i * (x * lv (b.take j)) ∧ out.drop (i + b.length) = List.replicate (a.length - i) 0
/-- between two rows of the product -/
def MO (a b : List Int) (i : Nat) (out : List Int) : Prop :=
  LW out ∧ out.length = a.length + b.length ∧ lv out = lv (a.take i) * lv b ∧ out.drop (i + b.length) = List.replicate (a.length - i) 0
theorem MO.start (a b : List Int) : MO a b 0 (List.replicate (a.length + b.length) 0) := by
  refine ⟨lw_zeros _, List.length_replicate .., ?_, ?_⟩
  · rw [lv_zeros, List.take_zero]; simp [lv]
  · rw [List.drop_replicate, Nat.sub_zero]; congr 1; omega
theorem MO.row {a b : List Int} {i : Nat} {out : List Int} (h : MO a b i out) (x : Int) : MI a b i 0 x out 0 :=
  ⟨h.1, h.2.1, ⟨by omega, by unfold B; omega⟩, by rw [List.take_zero]; simp only [lv, Int.mul_zero, Int.add_zero]; exact h.2.2.1, h.2.2.2⟩
theorem MI.step {a b : List Int} {i j : Nat} {x c y o : Int} {out : List Int} (h : MI a b i j x out c) (hx : 0 ≤ x ∧ x < B) (hb : LW b) (hy : b[j]? = some y) (ho : out[i + j]? = some o) :
    (0 ≤ x * y ∧ 0 ≤ o ∧ 0 ≤ y ∧ y < B ∧ o < B ∧ x * y + o + c < 18446744073709551616) ∧ MI a b i (j + 1) x (out.set (i + j) ((x * y + o + c) % B)) ((x * y + o + c) / B) := by
  obtain ⟨h1, h2, h3, h4, h5⟩ := h
  have e : B = 4294967296 := rfl
  have hyB := LW.get hb hy
  have hoB := LW.get h1 ho
  have hjl := (List.getElem?_eq_some_iff.1 hy).1
  have hxy0 := Int.mul_nonneg hx.1 hyB.1
  have hxy : x * y ≤ 4294967295 * 4294967295 := Int.mul_le_mul (by omega) (by omega) hyB.1 (by omega)
  have hm := Int.emod_nonneg (x * y + o + c) (show B ≠ 0 by omega)
  have hm2 := Int.emod_lt_of_pos (x * y + o + c) (show 0 < B by omega)
  have hd := Int.mul_ediv_add_emod (x * y + o + c) B
  have hq0 : 0 ≤ (x * y + o + c) / B := Int.ediv_nonneg (by omega) (by omega)
  have hq1 : (x * y + o + c) / B < B := Int.ediv_lt_of_lt_mul (by omega) (by rw [e]; omega)
  refine ⟨⟨hxy0, hoB.1, hyB.1, hyB.2, hoB.2, by omega⟩, lw_set h1 ⟨hm, hm2⟩, by rw [List.length_set, h2], ⟨hq0, hq1⟩, ?_, ?_⟩
  · rw [lv_set ho, take_succ hy, show i + (j + 1) = (i + j) + 1 from rfl]
    simp only [pw]
    have hp : pw (i + j) = pw i * pw j := pw_add i j
    generalize (x * y + o + c) / B = q at hd ⊢
    generalize hr : (x * y + o + c) % B = r at hd ⊢
    have e1 : lv out + pw (i + j) * (r - o) + B * pw (i + j) * q = lv out + pw (i + j) * ((B * q + r) - o) := by grind
    rw [e1, hd]
    have e2 : pw i * (x * (lv (b.take j) + pw j * y)) = pw i * (x * lv (b.take j)) + (pw i * pw j) * (x * y) := by grind
    rw [e2, ← hp]
    have e3 : pw (i + j) * (x * y + o + c - o) = pw (i + j) * (x * y) + pw (i + j) * c := by grind
    rw [e3]
    omega
  · rw [List.drop_set_of_lt (by omega)]; exact h5
theorem MI.done {a b : List Int} {i : Nat} {x c : Int} {out : List Int} (h : MI a b i b.length x out c) (hx : a[i]? = some x) : i + b.length < out.length ∧ MO a b (i + 1) (out.set (i + b.length) c) := by
  obtain ⟨h1, h2, h3, h4, h5⟩ := h
  have hil := (List.getElem?_eq_some_iff.1 hx).1
  have hz : out[i + b.length]? = some 0 := by
    have e1 : (out.drop (i + b.length))[0]? = out[i + b.length]? := by rw [List.getElem?_drop]; rfl
    rw [← e1, h5, List.getElem?_replicate, if_pos (by omega)]
  refine ⟨by omega, lw_set h1 h3, by rw [List.length_set, h2], ?_, ?_⟩
  · rw [lv_set hz, take_succ hx, Int.sub_zero]
    rw [List.take_length] at h4
    have e1 : (lv (a.take i) + pw i * x) * lv b = lv (a.take i) * lv b + pw i * (x * lv b) := by grind
    rw [e1, ← h4]
  · rw [show i + 1 + b.length = (i + b.length) + 1 by omega, List.drop_set_of_lt (by omega), ← List.drop_drop, h5, List.drop_replicate]
    congr 1
theorem times_ok {a b : List Int} (ha : LW a) (hb : LW b) (hn : a.length ≤ 400) (hm : b.length ≤ 400) : Ret (integer_times a b) (fun r => LW r ∧ Tm r ∧ lv r = lv a * lv b) := by
  unfold integer_times
  rw [ret_if]
  refine ⟨fun hz => ⟨_, rfl, by intro x hx; simp at hx, tm_nil, ?_⟩, fun hz => ?_⟩
  · simp only [Bool.or_eq_true, decide_eq_true_eq] at hz
    rcases hz with hz | hz
    · rw [show a = [] from List.eq_nil_of_length_eq_zero (by omega)]; simp [lv]
    · rw [show b = [] from List.eq_nil_of_length_eq_zero (by omega)]; simp [lv]
  rw [wa_i (by omega) (by omega), ret_bind, ret_mkL]
  refine ⟨by omega, by omega, ?_⟩
  rw [show ((a.length : Int) + (b.length : Int)).toNat = a.length + b.length by omega, ret_bind]
  refine (ret_loop (Post := fun o => MO a b a.length o) a.length (fun i (s : List Int × Int) => s.2 = (i : Int) ∧ MO a b i s.1) ⟨rfl, MO.start a b⟩ ?_ (by omega)).mono ?_
  · rintro i ⟨o, _⟩ hi ⟨rfl, hO⟩
    simp only at hO
    unfold integer_times_l4
    simp only
    rw [ret_if]
    refine ⟨fun hlt => ?_, fun hge => ⟨_, rfl, by have e : i = a.length := (by omega); subst e; exact hO⟩⟩
    rw [ret_bind, ret_get]
    refine ⟨by omega, hlt, fun x hx => ?_⟩
    rw [Int.toNat_natCast] at hx
    have hxB := LW.get ha hx
    rw [ret_bind]
    refine (ret_loop (Post := fun s : List Int × Int => MI a b i b.length x s.1 s.2) b.length (fun j (s : List Int × Int × Int) => s.2.2 = (j : Int) ∧ MI a b i j x s.1 s.2.1) ⟨rfl, hO.row x⟩ ?_ (by omega)).mono ?_
    · rintro j ⟨o, c, _⟩ hj ⟨rfl, hI⟩
      simp only at hI
      unfold integer_times_l5
      simp only
      rw [ret_if]
      refine ⟨fun hjl => ?_, fun hge => ⟨_, rfl, by have e : j = b.length := (by omega); subst e; exact hI⟩⟩
      have ho1 := hI.2.1
      rw [ret_bind, ret_get]
      refine ⟨by omega, hjl, fun y hy => ?_⟩
      rw [Int.toNat_natCast] at hy
      rw [wa_i (x := (i : Int)) (y := (j : Int)) (by omega) (by omega), ret_bind, ret_get]
      refine ⟨by omega, by omega, fun z hz => ?_⟩
      rw [show ((i : Int) + (j : Int)).toNat = i + j by omega] at hz
      obtain ⟨⟨t1, t2, t3, t4, t5, t6⟩, hN⟩ := hI.step hxB hb hy hz
      have hc := hI.2.2.1
      have e : B = 4294967296 := rfl
      have et : wa .u64 (wa .u64 (wm .u64 (wc .u64 x) (wc .u64 y)) (wc .u64 z)) c = x * y + z + c := by
        rw [wc_u64_in (x := x) ⟨hxB.1, by omega⟩, wc_u64_in (x := y) ⟨t3, by omega⟩, wc_u64_in (x := z) ⟨t2, by omega⟩, wm_u64 ⟨t1, by omega⟩, wa_u64 (x := x * y) (y := z) ⟨by omega, by omega⟩, wa_u64 ⟨by omega, by omega⟩]
      have hmm := Int.emod_nonneg (x * y + z + c) (show B ≠ 0 by omega)
      have hmm2 := Int.emod_lt_of_pos (x * y + z + c) (show 0 < B by omega)
      rw [et, wand_low ⟨by omega, t6⟩, wsrc32 (by omega), wc_u32_in ⟨hmm, hmm2⟩, ret_bind, ret_set]
      refine ⟨by omega, by omega, _, rfl, by omega, by show wa .i64 (j : Int) 1 = _; rw [wa_i (by omega) (by omega)]; rfl, ?_⟩
      rw [show ((i : Int) + (j : Int)).toNat = i + j by omega]
      exact hN
    · rintro ⟨o, c⟩ hI
      simp only at hI ⊢
      obtain ⟨hl, hN⟩ := hI.done hx
      have ho1 := hI.2.1
      rw [wa_i (x := (i : Int)) (y := (b.length : Int)) (by omega) (by omega), wc_u32_in hI.2.2.1, ret_bind, ret_set]
      refine ⟨by omega, by omega, _, rfl, by omega, by show wa .i64 (i : Int) 1 = _; rw [wa_i (by omega) (by omega)]; rfl, ?_⟩
      rw [show ((i : Int) + (b.length : Int)).toNat = i + b.length by omega]
      exact hN
  · rintro o ⟨h1, h2, h3, h4⟩
    rw [List.take_length] at h3
    rw [trim_ok h1 (by omega), obs]
    exact ⟨_, rfl, trimL_lw h1, trimL_tm _, by rw [trimL_lv]; exact h3⟩
theorem sv_neg_iff (s : Bool) (l : List Int) : sv s l = if s = true then - lv l else lv l := rfl
theorem from_bg {n : Int} (h0 : -9223372036854775808 ≤ n) (h1 : n < 9223372036854775808) : Ret (integer_FromInt n) (fun r => Bg n r.1 r.2) := by
  have e : B = 4294967296 := rfl
  have key : ∀ u : Int, 0 ≤ u → u < 18446744073709551616 → (if n < 0 then - u else u) = n → Ret (integer_FromInt_j1 n u) (fun r => Bg n r.1 r.2) := by
    intro u u0 u1 hu
    unfold integer_FromInt_j1
    have hm := Int.emod_nonneg u (show B ≠ 0 by omega)
    have hm2 := Int.emod_lt_of_pos u (show 0 < B by omega)
    have hd0 : 0 ≤ u / B := Int.ediv_nonneg u0 (by omega)
    have hd1 : u / B < B := Int.ediv_lt_of_lt_mul (by omega) (by rw [e]; omega)
    have hd := Int.mul_ediv_add_emod u B
    rw [wand_low ⟨u0, u1⟩, wsrc32 u0, wc_u32_in ⟨hm, hm2⟩, wc_u32_in ⟨hd0, hd1⟩, ret_bind]
    have hl : LW [u % B, u / B] := by
      intro x hx
      simp only [List.mem_cons, List.not_mem_nil, or_false] at hx
      rcases hx with rfl | rfl
      · exact ⟨hm, hm2⟩
      · exact ⟨hd0, hd1⟩
    refine (big_bg (decide (n < 0)) hl (by simp)).mono fun r hr => ⟨_, rfl, hr.cast ?_⟩
    have hv : lv [u % B, u / B] = u := by simp only [lv, Int.mul_zero, Int.add_zero]; omega
    unfold sv
    rw [hv]
    simpa using hu
  unfold integer_FromInt
  rw [ret_if]
  refine ⟨fun hneg => ?_, fun hpos => ?_⟩
  · have e3 : wneg .u64 (wc .u64 n) = - n := by rw [wc_u64]; unfold wneg; rw [IntKind.wrap_u64]; omega
    rw [e3]
    exact key (- n) (by omega) (by omega) (by rw [if_pos hneg]; omega)
  · rw [wc_u64_in ⟨by omega, by omega⟩]
    exact key n (by omega) (by omega) (by rw [if_neg hpos])
theorem lt_pw {l : List Int} (hl : LW l) {m : Nat} (h : l.length ≤ m) : lv l < pw m := by
  have h1 := lv_lt hl
  have h2 := pw_mono h
  omega
theorem mul_bg {s t : Bool} {a b : List Int} (ha : LW a) (hb : LW b) (hn : a.length ≤ 400) (hm : b.length ≤ 400) : Ret (integer_Mul s a t b) (fun r => Bg (sv s a * sv t b) r.1 r.2) := by
  unfold integer_Mul
  rw [trim_ok ha (by omega), obs, trim_ok hb (by omega), obs, ret_bind]
  have la := trim_len ha
  have lb := trim_len hb
  refine (times_ok (trimL_lw ha) (trimL_lw hb) (by omega) (by omega)).mono ?_
  rintro r ⟨r1, r2, r3⟩
  rw [trimL_lv, trimL_lv] at r3
  have hlen : r.length ≤ 800 := by
    refine len_le r1 r2 ?_
    have h1 := lt_pw ha hn
    have h2 := lt_pw hb hm
    have h3 := lv_nn ha
    have h4 := lv_nn hb
    rw [r3, show (800 : Nat) = 400 + 400 from rfl, pw_add]
    have h5 : lv a * lv b ≤ lv a * pw 400 := Int.mul_le_mul_of_nonneg_left (by omega) h3
    have h6 : lv a * pw 400 < pw 400 * pw 400 := Int.mul_lt_mul_of_pos_right h1 (pw_pos _)
    omega
  rw [ret_bind]
  refine (big_bg (!(s == t)) r1 (by omega)).mono fun q hq => ⟨_, rfl, hq.cast ?_⟩
  unfold sv
  rw [r3]
  cases s <;> cases t <;> simp <;> grind
theorem add_bg {s t : Bool} {a b : List Int} (ha : LW a) (hb : LW b) (hn : a.length ≤ 900) (hm : b.length ≤ 900) : Ret (integer_Add s a t b) (fun r => Bg (sv s a + sv t b) r.1 r.2) := by
  unfold integer_Add
  rw [trim_ok ha (by omega), obs, trim_ok hb (by omega), obs]
  have la := trim_len ha
  have lb := trim_len hb
  have ta := trimL_tm a
  have tb := trimL_tm b
  have wa' := trimL_lw ha
  have wb' := trimL_lw hb
  have h1 := lt_pw ha hn
  have h2 := lt_pw hb hm
  have h3 := lv_nn ha
  have h4 := lv_nn hb
  have hp : 2 * pw 900 ≤ pw 901 := by
    have := pw_pos 900
    show 2 * pw 900 ≤ B * pw 900
    unfold B; omega
  rw [ret_if]
  refine ⟨fun he => ?_, fun hne => ?_⟩
  · obtain rfl : s = t := by simpa using he
    rw [ret_bind]
    refine (plus_ok wa' wb' (by omega) (by omega)).mono ?_
    rintro r ⟨r1, r2, r3⟩
    rw [trimL_lv, trimL_lv] at r3
    have hlen : r.length ≤ 901 := len_le r1 r2 (by omega)
    rw [ret_bind]
    refine (big_bg s r1 (by omega)).mono fun q hq => ⟨_, rfl, hq.cast ?_⟩
    unfold sv
    rw [r3]
    cases s <;> simp <;> omega
  · have hst : t = !s := by cases s <;> cases t <;> simp_all
    subst hst
    rw [compare_ok wa' wb' ta tb (by omega) (by omega), obs, trimL_lv, trimL_lv, ret_if]
    refine ⟨fun hge => ?_, fun hlt => ?_⟩
    · have hab : lv b ≤ lv a := by
        refine Classical.byContradiction fun hc => ?_
        rw [if_pos (by omega)] at hge; omega
      have hll : (trimL b).length ≤ (trimL a).length := by
        refine Classical.byContradiction fun hc => ?_
        have := tm_len wa' wb' ta tb (by omega)
        rw [trimL_lv, trimL_lv] at this; omega
      rw [ret_bind]
      refine (minus_ok wa' wb' (by omega) hll (by rw [trimL_lv, trimL_lv]; exact hab)).mono ?_
      rintro r ⟨r1, r2, r3⟩
      rw [trimL_lv, trimL_lv] at r3
      have hlen : r.length ≤ 901 := len_le r1 r2 (by omega)
      rw [ret_bind]
      refine (big_bg s r1 (by omega)).mono fun q hq => ⟨_, rfl, hq.cast ?_⟩
      unfold sv
      rw [r3]
      cases s <;> simp <;> omega
    · have hab : lv a < lv b := by
        refine Classical.byContradiction fun hc => ?_
        rw [if_neg hc] at hlt
        revert hlt; split <;> omega
      have hll : (trimL a).length ≤ (trimL b).length := by
        refine Classical.byContradiction fun hc => ?_
        have := tm_len wb' wa' tb ta (by omega)
        rw [trimL_lv, trimL_lv] at this; omega
      rw [ret_bind]
      refine (minus_ok wb' wa' (by omega) hll (by rw [trimL_lv, trimL_lv]; omega)).mono ?_
      rintro r ⟨r1, r2, r3⟩
      rw [trimL_lv, trimL_lv] at r3
      have hlen : r.length ≤ 901 := len_le r1 r2 (by omega)
      rw [ret_bind]
      refine (big_bg (!s) r1 (by omega)).mono fun q hq => ⟨_, rfl, hq.cast ?_⟩
      unfold sv
      rw [r3]
      cases s <;> simp <;> omega
theorem sub_bg {s t : Bool} {a b : List Int} (ha : LW a) (hb : LW b) (hn : a.length ≤ 900) (hm : b.length ≤ 900) : Ret (integer_Sub s a t b) (fun r => Bg (sv s a - sv t b) r.1 r.2) := by
  unfold integer_Sub
  rw [ret_bind]
  refine (add_bg (s := s) (t := !t) ha hb hn hm).mono fun r hr => ⟨_, rfl, hr.cast ?_⟩
  rw [sv_not]; omega
theorem sign_bg {s : Bool} {l : List Int} (hl : LW l) (hn : l.length ≤ 1000) : integer_Sign s l = some (if sv s l < 0 then -1 else if 0 < sv s l then 1 else 0) := by
  refine Ret.eq ?_
  unfold integer_Sign
  rw [trim_ok hl (by omega), obs]
  have h0 := lv_nn hl
  have hz := lv_zero (trimL_lw hl) (trimL_tm l)
  rw [trimL_lv] at hz
  unfold sv
  rw [ret_if]
  refine ⟨fun h => ⟨_, rfl, ?_⟩, fun h => ?_⟩
  · have : lv l = 0 := hz.2 (List.eq_nil_of_length_eq_zero (by omega))
    rw [this]; cases s <;> simp
  · have : lv l ≠ 0 := fun h1 => h (by rw [hz.1 h1]; rfl)
    rw [ret_if]
    refine ⟨fun hs => ⟨_, rfl, ?_⟩, fun hs => ⟨_, rfl, ?_⟩⟩
    · rw [if_pos hs, if_pos (by omega)]
    · rw [if_neg hs, if_neg (by omega), if_pos (by omega)]
theorem cmp_bg {s t : Bool} {a b : List Int} (ha : LW a) (hb : LW b) (hn : a.length ≤ 1000) (hm : b.length ≤ 1000) : integer_Cmp s a t b = some (if sv s a < sv t b then -1 else if sv t b < sv s a then 1 else 0) := by
  refine Ret.eq ?_
  unfold integer_Cmp
  have la := trim_len ha
  have lb := trim_len hb
  have h3 := lv_nn ha
  have h4 := lv_nn hb
  rw [sign_bg ha hn, obs, sign_bg hb hm, obs, ret_if]
  refine ⟨fun h => ⟨_, rfl, ?_⟩, fun h => ?_⟩
  · revert h; split <;> split <;> (try split) <;> (try split) <;> omega
  · rw [ret_if]
    refine ⟨fun h' => ⟨_, rfl, ?_⟩, fun h' => ?_⟩
    · revert h h'; split <;> split <;> (try split) <;> (try split) <;> omega
    · rw [trim_ok ha (by omega), obs, trim_ok hb (by omega), obs, compare_ok (trimL_lw ha) (trimL_lw hb) (trimL_tm a) (trimL_tm b) (by omega) (by omega), obs, trimL_lv, trimL_lv]
      refine ⟨_, rfl, ?_⟩
      revert h h'
      unfold sv
      cases s <;> cases t <;> simp only [if_true, if_false, Bool.false_eq_true] <;> split <;> split <;> (try split) <;> (try split) <;> intro h h' <;> first | omega | (rw [wm_i (by omega) (by omega)]; omega)
end Km
/- Signed numbers of limbs: the paper's products, sums, differences, comparisons, doubling. -/
namespace Km
open Sx Go M Vc Lm
theorem make_bg {l : List Int} (s : Bool) (hl : LW l) (hn : l.length ≤ 1000000) : Ret (sparseref01_make1 s l) (fun r => Bg (sv s l) r.1 r.2) := by
  rw [make1_ok s hl hn]
  have h := Bg.norm (s := s) hl
  by_cases h0 : trimL l = []
  · rw [if_pos h0] at h
    refine ⟨_, rfl, ?_⟩
    show Bg _ (s && decide ((0 : Int) < ((trimL l).length : Int))) (trimL l)
    have : (s && decide ((0 : Int) < ((trimL l).length : Int))) = false := by rw [h0]; simp
    rw [this]; exact h
  · rw [if_neg h0] at h
    refine ⟨_, rfl, ?_⟩
    show Bg _ (s && decide ((0 : Int) < ((trimL l).length : Int))) (trimL l)
    have hp : 0 < (trimL l).length := by
      cases hL : trimL l with
      | nil => exact absurd hL h0
      | cons a b => simp
    have : (s && decide ((0 : Int) < ((trimL l).length : Int))) = s := by
      rw [decide_eq_true (by omega), Bool.and_true]
    rw [this]; exact h
theorem mulMag_ok {a b : List Int} (ha : LW a) (hb : LW b) (hn : a.length ≤ 400) (hm : b.length ≤ 400) : Ret (sparseref01_mulMag a b) (fun r => LW r ∧ r.length = a.length + b.length ∧ lv r = lv a * lv b) := by
  unfold sparseref01_mulMag
  rw [wa_i (by omega) (by omega), ret_bind, ret_mkL]
  refine ⟨by omega, by omega, ?_⟩
  rw [show ((a.length : Int) + (b.length : Int)).toNat = a.length + b.length by omega, ret_bind]
  refine (ret_loop (Post := fun o => MO a b a.length o) a.length (fun i (s : List Int × Int) => s.2 = (i : Int) ∧ MO a b i s.1) ⟨rfl, MO.start a b⟩ ?_ (by omega)).mono ?_
  · rintro i ⟨o, _⟩ hi ⟨rfl, hO⟩
    simp only at hO
    unfold sparseref01_mulMag_l3
    simp only
    rw [ret_if]
    refine ⟨fun hlt => ?_, fun hge => ⟨_, rfl, by have e : i = a.length := (by omega); subst e; exact hO⟩⟩
    obtain ⟨x, hx⟩ : ∃ x, a[i]? = some x := ⟨a[i]'(by omega), List.getElem?_eq_getElem (by omega)⟩
    have hxB := LW.get ha hx
    rw [ret_bind]
    refine (ret_loop (Post := fun s : List Int × Int => MI a b i b.length x s.1 s.2) b.length (fun j (s : List Int × Int × Int) => s.2.2 = (j : Int) ∧ MI a b i j x s.1 s.2.1) ⟨rfl, hO.row x⟩ ?_ (by omega)).mono ?_
    · rintro j ⟨o, c, _⟩ hj ⟨rfl, hI⟩
      simp only at hI
      unfold sparseref01_mulMag_l4
      simp only
      rw [ret_if]
      refine ⟨fun hjl => ?_, fun hge => ⟨_, rfl, by have e : j = b.length := (by omega); subst e; exact hI⟩⟩
      have ho1 := hI.2.1
      rw [ret_bind, ret_get]
      refine ⟨by omega, hlt, fun x' hx' => ?_⟩
      rw [Int.toNat_natCast, hx] at hx'
      obtain rfl := Option.some.inj hx'
      rw [ret_bind, ret_get]
      refine ⟨by omega, hjl, fun y hy => ?_⟩
      rw [Int.toNat_natCast] at hy
      rw [wa_i (x := (i : Int)) (y := (j : Int)) (by omega) (by omega), ret_bind, ret_get]
      refine ⟨by omega, by omega, fun z hz => ?_⟩
      rw [show ((i : Int) + (j : Int)).toNat = i + j by omega] at hz
      obtain ⟨⟨t1, t2, t3, t4, t5, t6⟩, hN⟩ := hI.step hxB hb hy hz
      have hc := hI.2.2.1
      have e : B = 4294967296 := rfl
      have et : wa .u64 (wa .u64 c (wm .u64 (wc .u64 x) (wc .u64 y))) (wc .u64 z) = x * y + z + c := by
        rw [wc_u64_in (x := x) ⟨hxB.1, by omega⟩, wc_u64_in (x := y) ⟨t3, by omega⟩, wc_u64_in (x := z) ⟨t2, by omega⟩, wm_u64 ⟨t1, by omega⟩, wa_u64 (x := c) (y := x * y) ⟨by omega, by omega⟩, wa_u64 ⟨by omega, by omega⟩]
        omega
      rw [et, wsrc32 (by omega), wc_u32, ret_bind, ret_set]
      refine ⟨by omega, by omega, _, rfl, by omega, by show wa .i64 (j : Int) 1 = _; rw [wa_i (by omega) (by omega)]; rfl, ?_⟩
      rw [show ((i : Int) + (j : Int)).toNat = i + j by omega]
      exact hN
    · rintro ⟨o, c⟩ hI
      simp only at hI ⊢
      obtain ⟨hl, hN⟩ := hI.done hx
      have ho1 := hI.2.1
      rw [wa_i (x := (i : Int)) (y := (b.length : Int)) (by omega) (by omega), wc_u32_in hI.2.2.1, ret_bind, ret_set]
      refine ⟨by omega, by omega, _, rfl, by omega, by show wa .i64 (i : Int) 1 = _; rw [wa_i (by omega) (by omega)]; rfl, ?_⟩
      rw [show ((i : Int) + (b.length : Int)).toNat = i + b.length by omega]
      exact hN
  · rintro o ⟨h1, h2, h3, h4⟩
    rw [List.take_length] at h3
    exact ⟨_, rfl, h1, h2, h3⟩
theorem fromR_bg {n : Int} (h0 : -9223372036854775808 ≤ n) (h1 : n < 9223372036854775808) : Ret (sparseref01_FromInt n) (fun r => Bg n r.1 r.2) := by
  have e : B = 4294967296 := rfl
  have key : ∀ u : Int, 0 ≤ u → u < 18446744073709551616 → (if n < 0 then - u else u) = n → Ret (sparseref01_FromInt_j1 n u) (fun r => Bg n r.1 r.2) := by
    intro u u0 u1 hu
    unfold sparseref01_FromInt_j1
    have hm := Int.emod_nonneg u (show B ≠ 0 by omega)
    have hm2 := Int.emod_lt_of_pos u (show 0 < B by omega)
    have hd0 : 0 ≤ u / B := Int.ediv_nonneg u0 (by omega)
    have hd1 : u / B < B := Int.ediv_lt_of_lt_mul (by omega) (by rw [e]; omega)
    have hd := Int.mul_ediv_add_emod u B
    rw [wsrc32 u0, wc_u32 u, wc_u32_in ⟨hd0, hd1⟩, ret_bind]
    have hl : LW [u % B, u / B] := by
      intro x hx
      simp only [List.mem_cons, List.not_mem_nil, or_false] at hx
      rcases hx with rfl | rfl
      · exact ⟨hm, hm2⟩
      · exact ⟨hd0, hd1⟩
    refine (make_bg (decide (n < 0)) hl (by simp)).mono fun r hr => ⟨_, rfl, hr.cast ?_⟩
    have hv : lv [u % B, u / B] = u := by simp only [lv, Int.mul_zero, Int.add_zero]; omega
    unfold sv
    rw [hv]
    simpa using hu
  unfold sparseref01_FromInt
  rw [ret_if]
  refine ⟨fun hneg => ?_, fun hpos => ?_⟩
  · have e3 : wa .u64 (wc .u64 (wneg .i64 (wa .i64 n 1))) 1 = - n := by
      have e4 : wneg .i64 (wa .i64 n 1) = - (n + 1) := by
        rw [wa_i (by omega) (by omega)]
        exact IntWalk.i64_in _ ⟨by omega, by omega⟩
      rw [e4, wc_u64_in ⟨by omega, by omega⟩, wa_u64 ⟨by omega, by omega⟩]; omega
    rw [e3]
    exact key (- n) (by omega) (by omega) (by rw [if_pos hneg]; omega)
  · rw [wc_u64_in ⟨by omega, by omega⟩]
    exact key n (by omega) (by omega) (by rw [if_neg hpos])
theorem mulR_bg {s t : Bool} {a b : List Int} (ha : LW a) (hb : LW b) (hn : a.length ≤ 400) (hm : b.length ≤ 400) : Ret (sparseref01_Mul s a t b) (fun r => Bg (sv s a * sv t b) r.1 r.2) := by
  unfold sparseref01_Mul
  rw [trimR_ok ha (by omega), obs, trimR_ok hb (by omega), obs, ret_bind]
  have la := trim_len ha
  have lb := trim_len hb
  refine (mulMag_ok (trimL_lw ha) (trimL_lw hb) (by omega) (by omega)).mono ?_
  rintro r ⟨r1, r2, r3⟩
  rw [trimL_lv, trimL_lv] at r3
  rw [ret_bind]
  refine (make_bg (!(s == t)) r1 (by omega)).mono fun q hq => ⟨_, rfl, hq.cast ?_⟩
  unfold sv
  rw [r3]
  cases s <;> cases t <;> simp <;> grind
theorem addR_bg {s t : Bool} {a b : List Int} (ha : LW a) (hb : LW b) (hn : a.length ≤ 900) (hm : b.length ≤ 900) : Ret (sparseref01_Add s a t b) (fun r => Bg (sv s a + sv t b) r.1 r.2) := by
  unfold sparseref01_Add
  rw [trimR_ok ha (by omega), obs, trimR_ok hb (by omega), obs]
  have la := trim_len ha
  have lb := trim_len hb
  have ta := trimL_tm a
  have tb := trimL_tm b
  have wa' := trimL_lw ha
  have wb' := trimL_lw hb
  have h3 := lv_nn ha
  have h4 := lv_nn hb
  rw [ret_if]
  refine ⟨fun he => ?_, fun hne => ?_⟩
  · obtain rfl : s = t := by simpa using he
    rw [ret_bind]
    refine (addMag_ok wa' wb' (by omega) (by omega)).mono ?_
    rintro r ⟨r1, r2, r3⟩
    rw [trimL_lv, trimL_lv] at r3
    rw [ret_bind]
    refine (make_bg s r1 (by omega)).mono fun q hq => ⟨_, rfl, hq.cast ?_⟩
    unfold sv
    rw [r3]
    cases s <;> simp <;> omega
  · have hst : t = !s := by cases s <;> cases t <;> simp_all
    subst hst
    rw [cmpMag_ok wa' wb' ta tb (by omega) (by omega), obs, trimL_lv, trimL_lv, ret_if]
    refine ⟨fun hge => ?_, fun hlt => ?_⟩
    · have hab : lv b ≤ lv a := by
        refine Classical.byContradiction fun hc => ?_
        rw [if_pos (by omega)] at hge; omega
      have hll : (trimL b).length ≤ (trimL a).length := by
        refine Classical.byContradiction fun hc => ?_
        have := tm_len wa' wb' ta tb (by omega)
        rw [trimL_lv, trimL_lv] at this; omega
      rw [ret_bind]
      refine (subMag_ok wa' wb' (by omega) hll (by rw [trimL_lv, trimL_lv]; exact hab)).mono ?_
      rintro r ⟨r1, r2, r3⟩
      rw [trimL_lv, trimL_lv] at r3
      rw [ret_bind]
      refine (make_bg s r1 (by omega)).mono fun q hq => ⟨_, rfl, hq.cast ?_⟩
      unfold sv
      rw [r3]
      cases s <;> simp <;> omega
    · have hab : lv a < lv b := by
        refine Classical.byContradiction fun hc => ?_
        rw [if_neg hc] at hlt
        revert hlt; split <;> omega
      have hll : (trimL a).length ≤ (trimL b).length := by
        refine Classical.byContradiction fun hc => ?_
        have := tm_len wb' wa' tb ta (by omega)
        rw [trimL_lv, trimL_lv] at this; omega
      rw [ret_bind]
      refine (subMag_ok wb' wa' (by omega) hll (by rw [trimL_lv, trimL_lv]; omega)).mono ?_
      rintro r ⟨r1, r2, r3⟩
      rw [trimL_lv, trimL_lv] at r3
      rw [ret_bind]
      refine (make_bg (!s) r1 (by omega)).mono fun q hq => ⟨_, rfl, hq.cast ?_⟩
      unfold sv
      rw [r3]
      cases s <;> simp <;> omega
theorem negR_bg {s : Bool} {a : List Int} (ha : LW a) (hn : a.length ≤ 1000000) : Ret (sparseref01_Neg s a) (fun r => Bg (- sv s a) r.1 r.2 ∧ r.2.length ≤ a.length) := by
  unfold sparseref01_Neg
  rw [ret_bind]
  have h := make1_ok (!s) ha hn
  obtain ⟨q, hq, hB⟩ := make_bg (!s) ha hn
  refine ⟨q, hq, _, rfl, hB.cast (sv_not s a), ?_⟩
  rw [h] at hq
  obtain rfl := Option.some.inj hq
  exact trim_len ha
theorem subR_bg {s t : Bool} {a b : List Int} (ha : LW a) (hb : LW b) (hn : a.length ≤ 900) (hm : b.length ≤ 900) : Ret (sparseref01_Sub s a t b) (fun r => Bg (sv s a - sv t b) r.1 r.2) := by
  unfold sparseref01_Sub
  rw [ret_bind]
  refine (negR_bg (s := t) hb (by omega)).mono ?_
  rintro q ⟨hq, hl⟩
  rw [ret_bind]
  refine (addR_bg (s := s) (t := q.1) ha hq.1 hn (by omega)).mono fun r hr => ⟨_, rfl, hr.cast ?_⟩
  rw [hq.sv]; omega
theorem signR_bg {v : Int} {s : Bool} {l : List Int} (h : Bg v s l) (hn : l.length ≤ 1000) : sparseref01_Sign s l = some (if v < 0 then -1 else if 0 < v then 1 else 0) := by
  rw [sign_ok s h.1 h.2.1 hn]
  have h0 := lv_nn h.1
  have hz := lv_zero h.1 h.2.1
  have ha := h.abs
  have hg := h.neg
  by_cases hv : v < 0
  · rw [if_neg (fun e => by rw [hz.2 e] at ha; split at ha <;> omega), if_pos (hg.2 hv), if_pos hv]
  · rw [if_neg hv] at ha ⊢
    by_cases hp : 0 < v
    · rw [if_pos hp, if_neg (fun e => by rw [hz.2 e] at ha; omega), if_neg (fun e => hv (hg.1 e))]
    · rw [if_neg hp, if_pos (hz.1 (by omega))]
theorem cmpR_bg {s t : Bool} {a b : List Int} (ha : LW a) (hb : LW b) (hn : a.length ≤ 900) (hm : b.length ≤ 900) : sparseref01_Cmp s a t b = some (if sv s a < sv t b then -1 else if sv t b < sv s a then 1 else 0) := by
  refine Ret.eq ?_
  unfold sparseref01_Cmp
  rw [ret_bind]
  refine (subR_bg (s := s) (t := t) ha hb hn hm).mono fun r hr => ?_
  have h1 := lt_pw ha hn
  have h2 := lt_pw hb hm
  have h3 := lv_nn ha
  have h4 := lv_nn hb
  have hp : 2 * pw 900 ≤ pw 901 := by
    have := pw_pos 900
    show 2 * pw 900 ≤ B * pw 900
    unfold B; omega
  have hlen : r.2.length ≤ 901 := hr.len (by unfold sv; split <;> split <;> omega) (by unfold sv; split <;> split <;> omega)
  rw [signR_bg hr (by omega), obs]
  refine ⟨_, rfl, ?_⟩
  split <;> split <;> (try split) <;> (try split) <;> omega
theorem dblR_bg {s : Bool} {a : List Int} (ha : LW a) (hn : a.length ≤ 900) : Ret (sparseref01_Shift s a 1) (fun r => Bg (2 * sv s a) r.1 r.2) := by
  unfold sparseref01_Shift
  have h := norm_ok s ha (by omega)
  obtain ⟨q, hq, hB⟩ := make_bg s ha (by omega)
  have hN : sparseref01_Norm s a = some q := by unfold sparseref01_Norm; rw [hq, obs]
  have hql : q.2.length ≤ 900 := by
    rw [hN] at h
    obtain rfl := Option.some.inj h
    have := trim_len ha
    show (trimL a).length ≤ 900
    omega
  rw [hN, obs, if_pos (by omega), ret_bind]
  refine (shl_ok hB.1 (by omega) (s := 1) (by omega)).mono ?_
  rintro u ⟨u1, u2, u3⟩
  rw [ret_bind]
  refine (make_bg q.1 u1 (by omega)).mono fun r hr => ⟨_, rfl, hr.cast ?_⟩
  rw [← hB.sv]
  unfold sv
  rw [u3]
  split <;> omega
end Km
/- Chinese remainders: the numbers that both sides compute. -/
namespace Km
open Sx Go M Vc Lm Dt
def iv (p a : Int) : Int := (modular_inverse a p).getD 0
theorem iv_ok {p a : Int} (hp : PP p) (ha : 0 < a ∧ a < p) : modular_inverse a p = some (iv p a) ∧ (0 ≤ iv p a ∧ iv p a < p) ∧ a * iv p a % p = 1 := by
  obtain ⟨f, h1, h2, h3⟩ := inverse_ok hp ha
  have e : iv p a = f := by unfold iv; rw [h1]; rfl
  rw [e]
  exact ⟨h1, h2, h3⟩
def cst (res primes : List Int) : Nat → Int × Int
  | 0 => (0, 1)
  | i + 1 => ((cst res primes i).1 + (cst res primes i).2 * ((res.getD i 0 % primes.getD i 1 - (cst res primes i).1 % primes.getD i 1) % primes.getD i 1 * iv (primes.getD i 1) ((cst res primes i).2 % primes.getD i 1) % primes.getD i 1), (cst res primes i).2 * primes.getD i 1)
theorem cst_succ {res primes : List Int} {i : Nat} {r p : Int} (hr : res[i]? = some r) (hp : primes[i]? = some p) :
    cst res primes (i + 1) = ((cst res primes i).1 + (cst res primes i).2 * ((r % p - (cst res primes i).1 % p) % p * iv p ((cst res primes i).2 % p) % p), (cst res primes i).2 * p) := by
  have e1 : res.getD i 0 = r := by rw [List.getD_eq_getElem?_getD, hr]; rfl
  have e2 : primes.getD i 1 = p := by rw [List.getD_eq_getElem?_getD, hp]; rfl
  show ((cst res primes i).1 + _, _) = _
  rw [e1, e2]
theorem prm_dvd {p q : Int} (hp : PP p) (hq : PP q) (h : q ∣ p) : p = q := by
  have h2 := hp.two
  have h3 := hq.two
  obtain ⟨P, rfl⟩ := Int.eq_ofNat_of_zero_le (show 0 ≤ p by omega)
  obtain ⟨Q, rfl⟩ := Int.eq_ofNat_of_zero_le (show 0 ≤ q by omega)
  have hd : Q ∣ P := by exact_mod_cast h
  have := hp.prm.div Q (by simpa using hd)
  rw [Int.toNat_natCast] at this
  rcases this with e | e <;> omega
theorem prm_mul {p a b : Int} (hp : PP p) (ha : 0 ≤ a) (hb : 0 ≤ b) (h : p ∣ a * b) : p ∣ a ∨ p ∣ b := by
  have h2 := hp.two
  obtain ⟨P, rfl⟩ := Int.eq_ofNat_of_zero_le (show 0 ≤ p by omega)
  obtain ⟨A, rfl⟩ := Int.eq_ofNat_of_zero_le ha
  obtain ⟨C, rfl⟩ := Int.eq_ofNat_of_zero_le hb
  have hd : P ∣ A * C := by exact_mod_cast h
  have := hp.prm.euclid (by simpa using hd)
  rw [Int.toNat_natCast] at this
  rcases this with e | e
  · exact .inl (by exact_mod_cast e)
  · exact .inr (by exact_mod_cast e)
theorem prm_gcd {p n : Int} (hp : PP p) (hn : 0 ≤ n) (h : ¬ p ∣ n) : Int.gcd n p = 1 := by
  have h2 := hp.two
  obtain ⟨P, rfl⟩ := Int.eq_ofNat_of_zero_le (show 0 ≤ p by omega)
  obtain ⟨A, rfl⟩ := Int.eq_ofNat_of_zero_le hn
  have hd : ¬ P ∣ A := fun hh => h (by exact_mod_cast hh)
  have := hp.prm.cop (a := A) (by simpa using hd)
  rw [Int.toNat_natCast] at this
  rw [Int.gcd_comm]
  exact this
structure CI (res primes : List Int) (i : Nat) (X N : Int) : Prop where
  nn : 0 < N ∧ N ≤ pw i
  xx : 0 ≤ X ∧ X < N
  cg : ∀ j p r, j < i → primes[j]? = some p → res[j]? = some r → Cg p X r ∧ p ∣ N
  out : ∀ q, PP q → (∀ j p, j < i → primes[j]? = some p → p ≠ q) → ¬ q ∣ N
  all : ∀ d, (∀ j p, j < i → primes[j]? = some p → p ∣ d) → N ∣ d
theorem cst_ok {res primes : List Int} (hlen : res.length = primes.length) (hP : ∀ p, p ∈ primes → PP p) (hnd : primes.Nodup) : ∀ i, i ≤ primes.length → CI res primes i (cst res primes i).1 (cst res primes i).2 := by
  intro i
  induction i with
  | zero =>
    intro _
    refine ⟨by show (0 : Int) < 1 ∧ (1 : Int) ≤ 1; omega, by show (0 : Int) ≤ 0 ∧ (0 : Int) < 1; omega, fun j p r h => absurd h (by omega), fun q hq _ hd => ?_, fun d _ => ⟨d, by show d = 1 * d; omega⟩⟩
    have h1 := Int.le_of_dvd (by show (0 : Int) < 1; omega) hd
    have := hq.two
    have h1 : q ≤ 1 := h1
    omega
  | succ i ih =>
    intro hi
    have hI := ih (by omega)
    obtain ⟨p, hp⟩ : ∃ p, primes[i]? = some p := ⟨primes[i]'(by omega), List.getElem?_eq_getElem (by omega)⟩
    obtain ⟨r, hr⟩ : ∃ r, res[i]? = some r := ⟨res[i]'(by omega), List.getElem?_eq_getElem (by omega)⟩
    have hPp := hP p (mem_get hp)
    have h2 := hPp.two
    have h3 := hPp.max
    rw [cst_succ hr hp]
    generalize hX : (cst res primes i).1 = X at hI ⊢
    generalize hN : (cst res primes i).2 = N at hI ⊢
    have hne : ∀ j q, j < i → primes[j]? = some q → q ≠ p := by
      intro j q hj hq e
      subst e
      have hil := (List.getElem?_eq_some_iff.1 hp)
      have hjl := (List.getElem?_eq_some_iff.1 hq)
      have := (List.nodup_iff_pairwise_ne.1 hnd)
      rw [List.pairwise_iff_getElem] at this
      exact this j i hjl.1 hil.1 hj (hjl.2.trans hil.2.symm)
    have hnp := hI.out p hPp hne
    have hNp : 0 < N % p ∧ N % p < p := by
      have h4 := mod_rng N (show 0 < p by omega)
      have h5 : N % p ≠ 0 := fun h => hnp (Int.dvd_of_emod_eq_zero h)
      omega
    obtain ⟨_, hv, hv1⟩ := iv_ok hPp hNp
    generalize iv p (N % p) = v at hv hv1
    have hk := mod_rng ((r % p - X % p) % p * v) (show 0 < p by omega)
    have hkC : Cg p ((r % p - X % p) % p * v % p) ((r - X) * v) :=
      (Cg.mod p _).trans ((((Cg.mod p _).trans ((Cg.mod p r).sub (Cg.mod p X))).mul (Cg.refl p v)))
    generalize (r % p - X % p) % p * v % p = k at hk hkC
    have hpB : p ≤ B := by unfold B; omega
    have hvC : Cg p (N * v) 1 := by
      have h6 : Cg p (N * v) (N % p * v) := (Cg.mod p N).symm.mul (Cg.refl p v)
      refine h6.trans (Cg.iff.2 ?_)
      rw [hv1, Int.emod_eq_of_lt (by omega) (by omega)]
    have hn := hI.nn
    have hx := hI.xx
    have e2 : N * 1 ≤ N * p := Int.mul_le_mul_of_nonneg_left (by omega) (by omega)
    have e3 : N * k ≤ N * (p - 1) := Int.mul_le_mul_of_nonneg_left (by omega) (by omega)
    rw [Int.mul_sub] at e3
    have e4 : 0 ≤ N * k := Int.mul_nonneg (by omega) (by omega)
    refine ⟨⟨by show 0 < N * p; omega, ?_⟩, ⟨by show 0 ≤ X + N * k; omega, by show X + N * k < N * p; omega⟩, ?_, ?_, ?_⟩
    · show N * p ≤ B * pw i
      have h7 : N * p ≤ pw i * p := Int.mul_le_mul_of_nonneg_right hn.2 (by omega)
      have h8 : pw i * p ≤ pw i * B := Int.mul_le_mul_of_nonneg_left hpB (by have := pw_pos i; omega)
      rw [Int.mul_comm B]; omega
    · intro j q s hj hq hs
      by_cases e : j = i
      · subst e
        obtain rfl := Option.some.inj (hp.symm.trans hq)
        obtain rfl := Option.some.inj (hr.symm.trans hs)
        exact ⟨Nt.crt_step (by omega) hvC hkC, ⟨N, by show N * p = p * N; rw [Int.mul_comm]⟩⟩
      · obtain ⟨h8, h9⟩ := hI.cg j q s (by omega) hq hs
        exact ⟨Nt.crt_keep h9 h8, Int.dvd_trans h9 ⟨p, rfl⟩⟩
    · intro q hq hqn hd
      rcases prm_mul hq (by omega) (by omega) hd with h | h
      · exact hI.out q hq (fun j s hj hs => hqn j s (by omega) hs) h
      · exact hqn i p (by omega) hp (prm_dvd hPp hq h)
    · intro d hd
      exact Nt.cop_mul (prm_gcd hPp (by omega) hnp) (hI.all d fun j s hj hs => hd j s (by omega) hs) (hd i p (by omega) hp)
end Km
/- The sanity check, primes, equal numbers. -/
namespace Km
open Sx Go M Vc Lm Dt
theorem awake07 : sparselaw07_awake = some true := by kernel_rfl
theorem sqb {i : Int} (h2 : 2 ≤ i) (h3 : i ≤ 46342) : 0 ≤ i * i ∧ i * i ≤ 46342 * 46342 := ⟨Int.mul_nonneg (by omega) (by omega), Int.mul_le_mul h3 h3 (by omega) (by omega)⟩
theorem isPrime_cases (x : Int) : modular_IsPrime x = some false ∨ (modular_IsPrime x = some true ∧ PP x) := by
  by_cases hx : x < 2 ∨ 2147483647 < x
  · refine .inl ?_
    unfold modular_IsPrime
    rw [if_pos (by simpa using hx)]
  · have hx : 2 ≤ x ∧ x ≤ 2147483647 := by omega
    obtain ⟨P, rfl⟩ := Int.eq_ofNat_of_zero_le (show 0 ≤ x by omega)
    have h : Ret (loop (modular_IsPrime_l2 (P : Int)) 2) (fun o => o = .inl () → ∀ d, 2 ≤ d → d * d ≤ P → ¬ d ∣ P) := by
      refine ret_loopM (fun i => (2 ≤ i ∧ i ≤ 46342) ∧ ∀ d : Nat, 2 ≤ d → (d : Int) < i → ¬ d ∣ P) (fun i => (46342 - i).toNat) ⟨by decide, fun d h1 h2 => absurd h2 (by omega)⟩ (by decide) ?_
      rintro i ⟨⟨h2, h3⟩, h0⟩
      obtain ⟨h4, h5⟩ := sqb h2 h3
      unfold modular_IsPrime_l2
      rw [wm_i (by omega) (by omega)]
      split
      · rename_i hle
        have h6 : i ≤ 46341 := by
          refine Classical.byContradiction fun hc => ?_
          obtain rfl : i = 46342 := by omega
          omega
        rw [wr_nn (by omega) (by omega), obs]
        split
        · exact ⟨_, rfl, fun h => by cases h⟩
        · rename_i hne
          refine ⟨_, rfl, ?_⟩
          rw [wa_i (by omega) (by omega)]
          refine ⟨⟨⟨by omega, by omega⟩, fun d hd1 hd2 hd3 => ?_⟩, by show (46342 - (i + 1)).toNat < (46342 - i).toNat; omega⟩
          by_cases e : (d : Int) = i
          · apply hne
            rw [← e]
            exact Int.emod_eq_zero_of_dvd (by exact_mod_cast hd3)
          · exact h0 d hd1 (by omega) hd3
      · rename_i hgt
        refine ⟨_, rfl, fun _ d hd1 hd2 => h0 d hd1 ?_⟩
        refine Classical.byContradiction fun hc => ?_
        have : i * i ≤ (d : Int) * (d : Int) := Int.mul_le_mul (by omega) (by omega) (by omega) (by omega)
        have h9 : ((d * d : Nat) : Int) ≤ (P : Int) := by omega
        simp at h9
        omega
    obtain ⟨o, ho, hpo⟩ := h
    unfold modular_IsPrime
    rw [if_neg (by simp; omega), ho, obs]
    cases o with
    | inr u => exact .inl rfl
    | inl u => exact .inr ⟨rfl, hx.1, hx.2, Nt.Prm.of (by rw [Int.toNat_natCast]; omega) (by rw [Int.toNat_natCast]; exact hpo rfl)⟩
def pb (x : Int) : Bool := (modular_IsPrime x).getD false
theorem pb_ok (x : Int) : modular_IsPrime x = some (pb x) ∧ (pb x = true → PP x) := by
  unfold pb
  rcases isPrime_cases x with h | ⟨h, hp⟩
  · rw [h]; exact ⟨rfl, fun h => by cases h⟩
  · rw [h]; exact ⟨rfl, fun _ => hp⟩
theorem pp_true {p : Int} (hp : PP p) : modular_IsPrime p = some true := by
  rcases isPrime_cases p with h | ⟨h, _⟩
  · exfalso
    unfold modular_IsPrime at h
    have h2 := hp.two
    have h3 := hp.max
    rw [if_neg (by simp; omega)] at h
    obtain ⟨P, rfl⟩ := Int.eq_ofNat_of_zero_le (show 0 ≤ p by omega)
    have key : Ret (loop (modular_IsPrime_l2 (P : Int)) 2) (fun o => o = .inl ()) := by
      refine ret_loopM (fun i => 2 ≤ i ∧ i ≤ 46342) (fun i => (46342 - i).toNat) (by decide) (by decide) ?_
      rintro i ⟨h2, h3⟩
      obtain ⟨h4, h5⟩ := sqb h2 h3
      unfold modular_IsPrime_l2
      rw [wm_i (by omega) (by omega)]
      split
      · rename_i hle
        have h6 : i ≤ 46341 := by
          refine Classical.byContradiction fun hc => ?_
          obtain rfl : i = 46342 := by omega
          omega
        rw [wr_nn (by omega) (by omega), obs]
        split
        · rename_i h0
          exfalso
          have hd : i ∣ (P : Int) := Int.dvd_of_emod_eq_zero h0
          obtain ⟨I, rfl⟩ := Int.eq_ofNat_of_zero_le (show 0 ≤ i by omega)
          have hd' : I ∣ P := by exact_mod_cast hd
          have := hp.prm.div I (by simpa using hd')
          rw [Int.toNat_natCast] at this
          rcases this with e | e
          · omega
          · subst e
            have : (I : Int) * 2 ≤ (I : Int) * (I : Int) := Int.mul_le_mul_of_nonneg_left (by omega) (by omega)
            omega
        · refine ⟨_, rfl, ?_⟩
          rw [wa_i (by omega) (by omega)]
          exact ⟨⟨by omega, by omega⟩, by show (46342 - (i + 1)).toNat < (46342 - i).toNat; omega⟩
      · exact ⟨_, rfl, rfl⟩
    obtain ⟨o, ho, rfl⟩ := key
    rw [ho, obs] at h
    cases h
  · exact h
theorem limbs_self {l : List Int} (hl : l.length ≤ 1000) : sparsekit_Limbs l l = some true := by
  refine Ret.eq ?_
  unfold sparsekit_Limbs
  rw [if_pos rfl, ret_bind]
  refine (ret_loop (Post := fun o => o = .inl ()) l.length (fun k (i : Int) => i = (k : Int)) rfl ?_ (by omega)).mono ?_
  · rintro k _ hk rfl
    unfold sparsekit_Limbs_l1
    rw [ret_if]
    refine ⟨fun hlt => ?_, fun hge => ⟨_, rfl, rfl⟩⟩
    rw [ret_bind, ret_get]
    refine ⟨by omega, hlt, fun x hx => ?_⟩
    rw [ret_bind, ret_get]
    refine ⟨by omega, hlt, fun y hy => ?_⟩
    obtain rfl := Option.some.inj (hx.symm.trans hy)
    rw [if_pos rfl]
    refine ⟨_, rfl, by omega, ?_⟩
    show wa .i64 (k : Int) 1 = _
    rw [wa_i (by omega) (by omega)]; rfl
  · rintro _ rfl
    exact ⟨_, rfl, rfl⟩
theorem bigS_ok {v : Int} {s t : Bool} {l m : List Int} (h : Bg v s l) (h' : Bg v t m) (hl : l.length ≤ 1000) : sparsekit_Big s l t m = some true := by
  obtain ⟨rfl, rfl⟩ := h.uniq h'
  unfold sparsekit_Big
  rw [if_pos (by simp), limbs_self hl, obs, obs]
end Km
