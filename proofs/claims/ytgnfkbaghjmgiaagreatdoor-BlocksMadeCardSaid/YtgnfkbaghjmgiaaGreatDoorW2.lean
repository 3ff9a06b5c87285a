/- Walks: each function computes its model, printed. -/
import Derived.Test.YtgnfkbaghjmgiaaGreatDoorW1
namespace Go.Proofs.YtgnfkbaghjmgiaaGreatDoor
open Go Sx M
set_option maxRecDepth 100000
set_option maxHeartbeats 40000000
set_option linter.unusedVariables false
attribute [local irreducible] wpList Code.wp Calls DR QR QS LA LS St
variable {w0 : World} {ros : List Fact} {rs : List Res} {w : World}
theorem cmp_Or_int_ok {j : LI} {d : Hdr} {out : Int} (g : cmp_Or_int j = some out) (k : imm I1 d.v j ∈ ros) (b : St w0 ros rs w) :
  Calls Tryz.prog 116 #[d.v] w (fun e w => e = .returned (iV out) ∧ St w0 ros rs w) := by
 refine enterQ Tryz.func116 rfl Tryz.ntmps116 rfl fun Q p => sR fun _ C => Ya (iV 0) rfl (wK C (sR fun _ D => Ya (iV 0) rfl (wK D (seqQ fun a1 E F => sR fun _ G => ?_))))
 refine Ym d.v e0 (yY (yLen SL_22 e0 b (rdI k)) (Ym (iV 0) rfl (wK G (blockQ fun q r => bE g fun t H g => ?_))))
 have I : ∀ (f : FV) w, f 3 = iV 0 → St w0 ros rs w → .inl () = t → q (.exit 0) (fr 18 f) w := by
  intro f w J b ho
  subst ho
  refine r _ _ _ (E _ _ (sR fun _ K => Ym (iV 0) (eh J) (Ya (iV 0) e0 (wK K (wp_ret ?_)))))
  cases g
  exact p _ _ _ (fin1r Tryz.results116 ⟨rfl, rfl⟩ ⟨rfl, b⟩)
 have L : ∀ (l : Int) (f : FV) w, f 2 = iV l → St w0 ros rs w → .inr l = t → q .ret (fr 18 f) w := by
  intro l f w N b ho
  subst ho
  refine r _ _ _ (F _ _ _ rfl ?_)
  cases g
  exact p _ _ _ (fin1r Tryz.results116 ⟨rfl, N⟩ ⟨rfl, b⟩)
 refine loopQ (fun s a w => ∃ (h : Int) (f : FV), h = s ∧ a = fr 18 f ∧ f 3 = iV 0 ∧ f 6 = d.v ∧ f 7 = iV (j.length : Int) ∧ f 8 = iV h ∧ St w0 ros rs w) H ⟨_, _, rfl, rfl, rfl, rfl, rfl, rfl, b⟩ ?_
 rintro _ _ w a2 ⟨h, f, rfl, rfl, m, u, x, n, b⟩ c y a3 O z
 refine sR fun _ R => yY (ylss (eh n) (eh x)) (wK R (seqQ fun a4 S T => ?_))
 refine cIf e0 c (fun U c => ?_) fun U c => ?_
 ·refine wp_skip (S _ _ (seqQ fun a5 V W => blockQ fun _ A => sR fun _ X => bE c fun i B c => yY (yIa SL_22 (eh u) (eh n) b (rdI k) B) (yY (yI O_3 e0 b (rdI k) B) (Ya (iV i) e0 (wK X (sR fun _ Z => ?_))))))
  refine Ym (iV i) e0 (Ym (iV 0) (eh m) (yY (yneq e0 e0) (wK Z ?_)))
  rcases iteS c with ⟨o, c⟩ | ⟨o, c⟩
  ·refine condF e0 (nF (dT o)) (wp_skip (A _ _ _ (V _ _ (wR (yY (yadd (eh n) rfl) (Ym (iV (wa .i64 h 1)) e0 (wN ?_)))))))
   cases c
   exact O _ _ _ rfl ⟨_, _, rfl, rfl, m, u, x, rfl, b⟩
  ·refine condT e0 (nT (dF o)) (sR fun _ a0 => Ym (iV i) e0 (Ya (iV i) e0 (wK a0 (wp_ret (A _ _ _ (W _ _ _ rfl ?_))))))
   cases c
   exact z _ _ _ _ rfl rfl (L _ _ _ rfl b (y _ rfl))
 ·refine wp_exit (T _ _ _ rfl ?_)
  cases c
  exact z _ _ _ _ rfl rfl (I _ _ m b (y _ rfl))
theorem matrix_sorted_1_ok {c f h d g i out : Int} (b : matrix_sorted_1 c f h d g i = some out) (a : St w0 ros rs w) :
  Calls Tryz.prog 115 #[.agg #[iV c, iV f, .int .u64 h], .agg #[iV d, iV g, .int .u64 i]] w (fun e w => e = .returned (iV out) ∧ St w0 ros rs w) := by
 refine enterQ Tryz.func115 rfl Tryz.ntmps115 rfl fun Q m => sR fun _ o => yBb (r_box (vals := [iV c, iV f, .int .u64 h]) a e0 rfl) fun u w a => yBb (r_box (vals := [iV d, iV g, .int .u64 i]) a e0 rfl) fun v w a => Ya (iV 0) rfl (wK o (sQ fun _ p => bE b fun j q b => bE b fun k r b => bE b fun s t b => ?_))
 refine dR [0, 1, 0, 4, 15, 0, 32, 0, 128, 511, 1023, 2047, 4095] [4, 9, 10, 11, 12] 5 folM ?_
 replace a := a.drew
 refine Dn [0, 1, 2, 3, 5, 6, 7, 8] [] [4] (yR rfl (yFb FL_49_1 e0) (yR rfl (lb_ (iV f) O_3 e0 a R1) (yR rfl (yFb FL_49_1 e0) (yR rfl (lb_ (iV g) O_3 e0 a R0) (yR rfl (yFb FL_49_0 e0) (yR rfl (lb_ (iV c) O_3 e0 a R1) (yR rfl (yFb FL_49_0 e0) (yR rfl (lb_ (iV d) O_3 e0 a R0) (Rn QSn ?_)))))))))
 refine Lc1 rfl ?_
 refine Lk wn (yCall FN_117 (a2 e0 e0)) (cmp_Compare_int_ok q a) ?_
 rintro _ w ⟨rfl, a⟩
 refine ⟨_, rfl, ?_⟩
 refine Dn [] [5, 6, 7, 8] [9] (Rn (yS rfl (yFb FL_49_0 e0) (yS rfl (lb_ (iV c) O_3 e0 a R1) (yS rfl (yFb FL_49_0 e0) (yS rfl (lb_ (iV d) O_3 e0 a R0) QSn)))) ?_)
 refine Lc1 rfl ?_
 refine Lk wn (yCall FN_117 (a2 e0 e0)) (cmp_Compare_int_ok r a) ?_
 rintro _ w ⟨rfl, a⟩
 refine ⟨_, rfl, ?_⟩
 refine Dn [] [] [10] (Rn QSn ?_)
 refine Lc1 rfl ?_
 refine LH wn (rLt (n := 2) (l := [j, k]) a SL_22 [iV j, iV k] (bp2 e0 e0) rfl rfl (mks1 (cs := [iV j]) rfl mkI (mks1 (cs := [iV k]) rfl mkI mks0))) fun x w a => Dn [] [] [11] (Rn QSn ?_)
 refine Lc1 rfl ?_
 replace a := a.fz
 refine Lk wn (yCall FN_116 (a1 e0)) (cmp_Or_int_ok t F0 a) ?_
 rintro _ w ⟨rfl, a⟩
 refine ⟨_, rfl, ?_⟩
 refine Dn [] [] [12] (Rn QSn ?_)
 refine Lc1 rfl ?_
 refine Ly wn (a_ (iV s) e0) (Dz [] [] (Rn QSn (p _ _ (wp_ret ?_))))
 cases b
 exact m _ _ _ (fin1r Tryz.results115 ⟨rfl, rfl⟩ ⟨rfl, ((a.k1z).facts (allT allI))⟩)
theorem slices_insertionSortCmpFunc_apiEntry_ok {G : List (Int × Int × Int)} {i l : Int} {d : Hdr} {out : (List (Int × Int × Int))} (x : slices_insertionSortCmpFunc_apiEntry G i l = some out) (b : St w0 ros (row 49 rTi64i64u64 d.v G :: rs) w) :
  Calls Tryz.prog 140 #[d.v, iV i, iV l, .func (.func 115) #[] #[]] w (fun e w => e = .returned (.tuple #[]) ∧ St w0 ros (row 49 rTi64i64u64 d.v out :: rs) w) := by
 refine enterQ Tryz.func140 rfl Tryz.ntmps140 rfl fun Q Z => sR fun _ a0 => Ym (iV i) e0 (yY (yadd e0 rfl) (Ya (iV (wa .i64 i 1)) e0 (wK a0 (blockQ fun a1 a3 => bE x fun a4 a5 x => ?_))))
 have a6 : ∀ (y : List (Int × Int × Int)) (f : FV) w, St w0 ros (row 49 rTi64i64u64 d.v y :: rs) w → y = a4 → a1 (.exit 0) (fr 53 f) w := by
  intro y f w b ho
  subst ho
  refine a3 _ _ _ ?_
  cases x
  exact Z _ _ _ (fin0n Tryz.results140 ⟨rfl, b⟩)
 refine loopQ (fun s a w => ∃ (z : List (Int × Int × Int)) (j : Int) (f : FV), (z, j) = s ∧ a = fr 53 f ∧ f 0 = d.v ∧ f 1 = iV i ∧ f 2 = iV l ∧ f 3 = .func (.func 115) #[] #[] ∧ f 8 = iV j ∧ St w0 ros (row 49 rTi64i64u64 d.v z :: rs) w) a5 ⟨_, _, _, rfl, rfl, rfl, rfl, rfl, rfl, rfl, b⟩ ?_
 rintro _ _ w e4 ⟨z, j, f, rfl, rfl, a7, a8, H, a9, A, b⟩ m b0 e5 b1 b2
 refine seqQ fun e6 b3 b4 => sR fun _ b5 => Ym (iV j) (eh A) (Ym (iV l) (eh H) (yY (ylss e0 e0) (wK b5 ?_)))
 refine cIf e0 m (fun b6 m => ?_) fun b6 m => ?_
 ·refine wp_skip (b3 _ _ (sQ fun _ b7 => blockQ fun _ b8 => sR fun _ b9 => Ym (iV j) (eh A) (Ya (iV j) e0 (wK b9 (blockQ fun c0 c1 => bE m fun c2 c3 m => ?_)))))
  have c4 : ∀ (B : List (Int × Int × Int)) (f : FV) w, f 0 = d.v → f 1 = iV i → f 2 = iV l → f 3 = .func (.func 115) #[] #[] → f 8 = iV j → St w0 ros (row 49 rTi64i64u64 d.v B :: rs) w → B = c2 → c0 (.exit 2) (fr 53 f) w := by
   intro B f w c5 c6 c7 c8 c9 b ho
   subst ho
   refine c1 _ _ _ (b8 _ _ _ (b7 _ _ (wR (Ym (iV j) (eh c9) (yY (yadd e0 rfl) (Ya (iV (wa .i64 j 1)) e0 (wN ?_)))))))
   cases m
   exact b1 _ _ _ rfl ⟨_, _, _, rfl, rfl, c5, c6, c7, c8, rfl, b⟩
  refine loopQ (fun s a w => ∃ (r : List (Int × Int × Int)) (g : Int) (f : FV), (r, g) = s ∧ a = fr 53 f ∧ f 0 = d.v ∧ f 1 = iV i ∧ f 2 = iV l ∧ f 3 = .func (.func 115) #[] #[] ∧ f 8 = iV j ∧ f 9 = iV g ∧ St w0 ros (row 49 rTi64i64u64 d.v r :: rs) w) c3 ⟨_, _, _, rfl, rfl, a7, a8, H, a9, A, rfl, b⟩ ?_
  rintro _ _ w e7 ⟨r, g, f, rfl, rfl, t, u, I, C, J, p, b⟩ h d0 e8 d1 d2
  refine seqQ fun e9 d3 d4 => sQ fun _ d5 => bE h fun D k h => ?_
  refine joinN (n := 53) (fun f w => f 0 = d.v ∧ f 1 = iV i ∧ f 2 = iV l ∧ f 3 = .func (.func 115) #[] #[] ∧ f 8 = iV j ∧ f 9 = iV g ∧ f 34 = .bool D ∧ St w0 ros (row 49 rTi64i64u64 d.v r :: rs) w) (fun K => ?_) ?_
  ·rcases iteS k with ⟨c, k⟩ | ⟨c, k⟩
   ·refine bE k fun f0 L k => bE k fun f1 N k => bE k fun f2 d6 k => ?_
    have d7 := someI k
    refine dR [0, 0, 3, 7, 15, 15, 15, 111, 239, 15, 15, 1039, 3599, 7695, 16383, 32767, 65535] [14] 1 folM ?_
    replace b := b.drew
    refine Dn [0, 1, 2, 3, 4, 5, 6, 7, 8, 9, 10, 11, 12, 13] [] [14] (yR rfl (m_ (iV g) (eh p)) (yR rfl (m_ (iV i) (eh u)) (yR rfl (ygtr e0 e0) (yR rfl (m_ (.bool (decide (i < g))) e0) (Ry rfl rfl (wG (dT c)) (m_ (.func (.func 115) #[] #[]) (eh C)) (Ry rfl rfl (wG (dT c)) (m_ d.v (eh t)) (Ry rfl rfl (wG (dT c)) (m_ (iV g) (eh p)) (Ry rfl rfl (wG (dT c)) (yIa SL_44 e0 e0 b rO0 L) (Ry rfl rfl (wG (dT c)) (yFn ST_49 e0 b rO0 L rfl) (Ry rfl rfl (wG (dT c)) (m_ d.v (eh t)) (Ry rfl rfl (wG (dT c)) (m_ (iV g) (eh p)) (Ry rfl rfl (wG (dT c)) (ysub e0 rfl) (Ry rfl rfl (wG (dT c)) (yIa SL_44 e0 e0 b rO0 N) ?_)))))))))))))
    refine Ry rfl rfl (wG (dT c)) (yFn ST_49 e0 b rO0 N rfl) (Rn QSn ?_)
    refine Lc1 rfl ?_
    refine Lk (wG (dT c)) (yCallw FN_115 e0 (a2 e0 e0)) (matrix_sorted_1_ok d6 b) ?_
    rintro _ w ⟨rfl, b⟩
    refine ⟨_, rfl, ?_⟩
    exact Dz [15, 16] [] (Ry rfl rfl (wG (dT c)) (ylss e0 rfl) (yR rfl (pt_ (.bool D) e0 (dT c) (eqv d7 e0)) (Rn QSn (K _ _ ⟨t, u, I, C, J, p, rfl, b⟩))))
   ·have d8 := someI k
    refine dR [0, 0, 3, 7, 15, 15, 15, 111, 239, 15, 15, 1039, 3599, 7695, 16383, 32767, 65535] [14] 1 folM ?_
    replace b := b.drew
    refine Dn [0, 1, 2, 3, 4, 5, 6, 7, 8, 9, 10, 11, 12, 13] [] [14] (yR rfl (m_ (iV g) (eh p)) (yR rfl (m_ (iV i) (eh u)) (yR rfl (ygtr e0 e0) (yR rfl (m_ (.bool (decide (i < g))) e0) (Rx rfl rfl (wX (dF c)) (Rx rfl rfl (wX (dF c)) (Rx rfl rfl (wX (dF c)) (Rx rfl rfl (wX (dF c)) (Rx rfl rfl (wX (dF c)) (Rx rfl rfl (wX (dF c)) (Rx rfl rfl (wX (dF c)) (Rx rfl rfl (wX (dF c)) (Rx rfl rfl (wX (dF c)) ?_)))))))))))))
    refine Rx rfl rfl (wX (dF c)) (Rn QSn ?_)
    refine Lc1 rfl ?_
    exact Lx (wX (dF c)) (Dz [15, 16] [] (Rx rfl rfl (wX (dF c)) (yR rfl (pf_ (.bool D) e0 (dF c) (eqv d8 rfl)) (Rn QSn (K _ _ ⟨t, u, I, C, J, p, rfl, b⟩)))))
  rintro f w ⟨o, O, R, S, T, q, d9, b⟩
  refine d5 _ _ (cB (eh d9) h (fun e1 h => ?_) fun e1 h => ?_)
  ·refine wp_skip (d3 _ _ (sQ fun _ e2 => blockQ fun _ e3 => bE h fun E U h => bE h fun F V h => bE h fun f3 W h => bE h fun f4 X h => dR [0, 0, 0, 0, 8, 0, 0, 64, 224, 480, 0, 0, 3072, 7168, 16355, 32739, 65535, 131071] [15, 17] 2 folM ?_))
   replace b := b.drew
   refine Dn [0, 1, 2, 3, 4, 5, 6, 7, 8, 9, 10, 11, 12, 13, 14] [] [15] (yR rfl (m_ d.v (eh o)) (yR rfl (m_ (iV g) (eh q)) (yR rfl (m_ d.v (eh o)) (yR rfl (m_ (iV g) (eh q)) (yR rfl (ysub e0 rfl) (yR rfl (m_ d.v (eh o)) (yR rfl (m_ (iV g) (eh q)) (yR rfl (ysub e0 rfl) (yR rfl (yIa SL_44 e0 e0 b rO0 U) (yR rfl (yFn ST_49 e0 b rO0 U rfl) (yR rfl (m_ d.v (eh o)) (yR rfl (m_ (iV g) (eh q)) (yR rfl (yIa SL_44 e0 e0 b rO0 V) ?_)))))))))))))
   refine yR rfl (yFn ST_49 e0 b rO0 V rfl) (yR rfl (yIs SL_44 e0 e0 b rO0 W) (Rn QSn ?_))
   refine Lc1 rfl ?_
   refine LT wn (r_stn (cs := [iV E.1, iV E.2.1, .int .u64 E.2.2]) b ST_49 e0 e0 rfl (mkF rfl) W) fun w b => Dn [16] [2, 3, 4] [17] (yR rfl (yIs SL_44 e0 e0 b rO0 X) (Rn (yS rfl (m_ d.v (eh o)) (yS rfl (m_ (iV g) (eh q)) (yS rfl (ysub e0 rfl) QSn))) ?_))
   refine Lc1 rfl ?_
   refine LT wn (r_stn (cs := [iV F.1, iV F.2.1, .int .u64 F.2.2]) b ST_49 e0 e0 rfl (mkF rfl) X) fun w b => Dz [] [] (Rn QSn (e3 _ _ _ (e2 _ _ (wR (Ym (iV g) (eh q) (yY (ysub e0 rfl) (Ya (iV (ws .i64 g 1)) e0 (wN ?_))))))))
   cases h
   exact d1 _ _ _ rfl ⟨_, _, _, rfl, rfl, o, O, R, S, T, rfl, b⟩
  ·refine wp_exit (d4 _ _ _ rfl ?_)
   cases h
   exact d2 _ _ _ _ rfl rfl (c4 _ _ _ o O R S T b (d0 _ rfl))
 ·refine wp_exit (b4 _ _ _ rfl ?_)
  cases m
  exact b2 _ _ _ _ rfl rfl (a6 _ _ _ b (b0 _ rfl))
theorem slices_swapRangeCmpFunc_apiEntry_ok {u : List (Int × Int × Int)} {k i l : Int} {d : Hdr} {out : (List (Int × Int × Int))} (n : slices_swapRangeCmpFunc_apiEntry u k i l = some out) (b : St w0 ros (row 49 rTi64i64u64 d.v u :: rs) w) :
  Calls Tryz.prog 143 #[d.v, iV k, iV i, iV l, .func (.func 115) #[] #[]] w (fun e w => e = .returned (.tuple #[]) ∧ St w0 ros (row 49 rTi64i64u64 d.v out :: rs) w) := by
 refine enterQ Tryz.func143 rfl Tryz.ntmps143 rfl fun Q C => sR fun _ D => Ya (iV 0) rfl (wK D (blockQ fun E F => bE n fun G H n => ?_))
 have I : ∀ (o : List (Int × Int × Int)) (f : FV) w, St w0 ros (row 49 rTi64i64u64 d.v o :: rs) w → o = G → E (.exit 0) (fr 38 f) w := by
  intro o f w b ho
  subst ho
  refine F _ _ _ ?_
  cases n
  exact C _ _ _ (fin0n Tryz.results143 ⟨rfl, b⟩)
 refine loopQ (fun s a w => ∃ (p : List (Int × Int × Int)) (g : Int) (f : FV), (p, g) = s ∧ a = fr 38 f ∧ f 0 = d.v ∧ f 1 = iV k ∧ f 2 = iV i ∧ f 3 = iV l ∧ f 10 = iV g ∧ St w0 ros (row 49 rTi64i64u64 d.v p :: rs) w) H ⟨_, _, _, rfl, rfl, rfl, rfl, rfl, rfl, rfl, b⟩ ?_
 rintro _ _ w V ⟨p, g, f, rfl, rfl, j, q, m, x, h, b⟩ c J W K L
 refine seqQ fun X N O => sR fun _ R => Ym (iV g) (eh h) (Ym (iV l) (eh x) (yY (ylss e0 e0) (wK R ?_)))
 refine cIf e0 c (fun S c => ?_) fun S c => ?_
 ·refine wp_skip (N _ _ (sQ fun _ T => blockQ fun _ U => bE c fun r y c => bE c fun t z c => bE c fun Z A c => bE c fun a0 B c => dR [0, 0, 0, 6, 0, 0, 0, 96, 0, 0, 0, 1536, 3840, 7936, 0, 0, 0, 98304, 245760, 507904, 1048335, 2096911, 4194303, 8388607] [21, 23] 2 folM ?_))
  replace b := b.drew
  refine Dn [0, 1, 2, 3, 4, 5, 6, 7, 8, 9, 10, 11, 12, 13, 14, 15, 16, 17, 18, 19, 20] [] [21] (yR rfl (m_ d.v (eh j)) (yR rfl (m_ (iV k) (eh q)) (yR rfl (m_ (iV g) (eh h)) (yR rfl (yadd e0 e0) (yR rfl (m_ d.v (eh j)) (yR rfl (m_ (iV i) (eh m)) (yR rfl (m_ (iV g) (eh h)) (yR rfl (yadd e0 e0) (yR rfl (m_ d.v (eh j)) (yR rfl (m_ (iV i) (eh m)) (yR rfl (m_ (iV g) (eh h)) (yR rfl (yadd e0 e0) (yR rfl (yIa SL_44 e0 e0 b rO0 y) ?_)))))))))))))
  refine yR rfl (yFn ST_49 e0 b rO0 y rfl) (yR rfl (m_ d.v (eh j)) (yR rfl (m_ (iV k) (eh q)) (yR rfl (m_ (iV g) (eh h)) (yR rfl (yadd e0 e0) (yR rfl (yIa SL_44 e0 e0 b rO0 z) (yR rfl (yFn ST_49 e0 b rO0 z rfl) (yR rfl (yIs SL_44 e0 e0 b rO0 A) (Rn QSn ?_))))))))
  refine Lc1 rfl ?_
  refine LT wn (r_stn (cs := [iV r.1, iV r.2.1, .int .u64 r.2.2]) b ST_49 e0 e0 rfl (mkF rfl) A) fun w b => Dn [22] [4, 5, 6, 7] [23] (yR rfl (yIs SL_44 e0 e0 b rO0 B) (Rn (yS rfl (m_ d.v (eh j)) (yS rfl (m_ (iV i) (eh m)) (yS rfl (m_ (iV g) (eh h)) (yS rfl (yadd e0 e0) QSn)))) ?_))
  refine Lc1 rfl ?_
  refine LT wn (r_stn (cs := [iV t.1, iV t.2.1, .int .u64 t.2.2]) b ST_49 e0 e0 rfl (mkF rfl) B) fun w b => Dz [] [] (Rn QSn (U _ _ _ (T _ _ (wR (Ym (iV g) (eh h) (yY (yadd e0 rfl) (Ya (iV (wa .i64 g 1)) e0 (wN ?_))))))))
  cases c
  exact K _ _ _ rfl ⟨_, _, _, rfl, rfl, j, q, m, x, rfl, b⟩
 ·refine wp_exit (O _ _ _ rfl ?_)
  cases c
  exact L _ _ _ _ rfl rfl (I _ _ _ b (J _ rfl))
theorem slices_rotateCmpFunc_apiEntry_ok {B : List (Int × Int × Int)} {q b r : Int} {h : Hdr} {out : (List (Int × Int × Int))} (k : slices_rotateCmpFunc_apiEntry B q b r = some out) (c : St w0 ros (row 49 rTi64i64u64 h.v B :: rs) w) :
  Calls Tryz.prog 142 #[h.v, iV q, iV b, iV r, .func (.func 115) #[] #[]] w (fun e w => e = .returned (.tuple #[]) ∧ St w0 ros (row 49 rTi64i64u64 h.v out :: rs) w) := by
 refine enterQ Tryz.func142 rfl Tryz.ntmps142 rfl fun Q F => sR fun _ G => Ym (iV b) e0 (Ym (iV q) e0 (yY (ysub e0 e0) (Ya (iV (ws .i64 b q)) e0 (wK G (sR fun _ H => Ym (iV r) e0 (Ym (iV b) e0 (yY (ysub e0 e0) ?_)))))))
 refine Ya (iV (ws .i64 r b)) e0 (wK H (sQ fun _ I => blockQ fun J K => bE k fun L N k => ?_))
 have O : ∀ (t : List (Int × Int × Int)) (n : Int) (f : FV) w, f 0 = h.v → f 2 = iV b → f 4 = .func (.func 115) #[] #[] → f 10 = iV n → St w0 ros (row 49 rTi64i64u64 h.v t :: rs) w → (t, n) = L → J (.exit 0) (fr 58 f) w := by
  intro t n f w R C S D c ho
  subst ho
  refine K _ _ _ (I _ _ (wR (Ym h.v (eh R) (Ym (iV b) (eh C) (Ym (iV n) (eh D) (yY (ysub e0 e0) (Ym (iV b) (eh C) (Ym (iV n) (eh D) (Ym (.func (.func 115) #[] #[]) (eh S) (bE k fun b6 T k => yC (yCall FN_143 (a5 e0 e0 e0 e0 e0)) (slices_swapRangeCmpFunc_apiEntry_ok T c) ?_))))))))))
  rintro _ w ⟨rfl, c⟩
  refine ⟨_, rfl, ?_⟩
  refine wN ?_
  cases k
  exact F _ _ _ (fin0n Tryz.results142 ⟨rfl, c⟩)
 refine loopQ (fun s a w => ∃ (u : List (Int × Int × Int)) (d i : Int) (f : FV), (u, d, i) = s ∧ a = fr 58 f ∧ f 0 = h.v ∧ f 2 = iV b ∧ f 4 = .func (.func 115) #[] #[] ∧ f 10 = iV d ∧ f 11 = iV i ∧ St w0 ros (row 49 rTi64i64u64 h.v u :: rs) w) N ⟨_, _, _, _, rfl, rfl, rfl, rfl, rfl, rfl, rfl, c⟩ ?_
 rintro _ _ w U ⟨u, d, i, f, rfl, rfl, o, l, p, j, m, c⟩ g V b7 W X
 refine seqQ fun b8 Z a0 => sR fun _ a1 => Ym (iV d) (eh j) (Ym (iV i) (eh m) (yY (yneq e0 e0) (wK a1 ?_)))
 rcases iteS g with ⟨x, g⟩ | ⟨x, g⟩
 ·refine condF e0 (nF (dT x)) (wp_exit (a0 _ _ _ rfl ?_))
  cases g
  exact X _ _ _ _ rfl rfl (O _ _ _ _ o l p j c (V _ rfl))
 ·refine condT e0 (nT (dF x)) (wp_skip (Z _ _ (blockQ fun a2 a3 => sR fun _ a4 => Ym (iV d) (eh j) (Ym (iV i) (eh m) (yY (ygtr e0 e0) (wK a4 ?_))))))
  have E : ∀ (y : List (Int × Int × Int)) (z A : Int) (f : FV) w, f 0 = h.v → f 2 = iV b → f 4 = .func (.func 115) #[] #[] → f 10 = iV z → f 11 = iV A → St w0 ros (row 49 rTi64i64u64 h.v y :: rs) w → slices_rotateCmpFunc_apiEntry_j4 y z A = some U → a2 .normal (fr 58 f) w := by
   intro y z A f w a6 a7 a8 a9 b0 c k
   refine a3 _ _ _ ?_
   cases k
   exact W _ _ _ rfl ⟨_, _, _, _, rfl, rfl, a6, a7, a8, a9, b0, c⟩
  refine cIf e0 g (fun b1 g => ?_) fun b1 g => ?_
  ·refine sR fun _ b2 => Ym h.v (eh o) (Ym (iV b) (eh l) (Ym (iV d) (eh j) (yY (ysub e0 e0) (Ym (iV b) (eh l) (Ym (iV i) (eh m) (Ym (.func (.func 115) #[] #[]) (eh p) (bE g fun b9 b3 g => yC (yCall FN_143 (a5 e0 e0 e0 e0 e0)) (slices_swapRangeCmpFunc_apiEntry_ok b3 c) ?_)))))))
   rintro _ w ⟨rfl, c⟩
   refine ⟨_, rfl, ?_⟩
   exact wK b2 (wR (Ym (iV d) (eh j) (Ym (iV i) (eh m) (yY (ysub e0 e0) (Ya (iV (ws .i64 d i)) e0 (wN (E _ _ _ _ _ o l p rfl m c g)))))))
  ·refine sR fun _ b4 => Ym h.v (eh o) (Ym (iV b) (eh l) (Ym (iV d) (eh j) (yY (ysub e0 e0) (Ym (iV b) (eh l) (Ym (iV i) (eh m) (yY (yadd e0 e0) (Ym (iV d) (eh j) (yY (ysub e0 e0) (Ym (iV d) (eh j) (Ym (.func (.func 115) #[] #[]) (eh p) (bE g fun c0 b5 g => ?_)))))))))))
   refine yC (yCall FN_143 (a5 e0 e0 e0 e0 e0)) (slices_swapRangeCmpFunc_apiEntry_ok b5 c) ?_
   rintro _ w ⟨rfl, c⟩
   refine ⟨_, rfl, ?_⟩
   exact wK b4 (wR (Ym (iV i) (eh m) (Ym (iV d) (eh j) (yY (ysub e0 e0) (Ya (iV (ws .i64 i d)) e0 (wN (E _ _ _ _ _ o l p j rfl c g)))))))
theorem slices_symMergeCmpFunc_apiEntry_step {rec : (List (Int × Int × Int)) → Int → Int → Int → Option ((List (Int × Int × Int)))} (e9 : ∀ {w0 : World} {ros : List Fact} {rs : List Res} {w : World} {k : List (Int × Int × Int)} {c g d : Int} {h : Hdr} {out : (List (Int × Int × Int))} (i : rec k c g d = some out) (b : St w0 ros (row 49 rTi64i64u64 h.v k :: rs) w), Calls Tryz.prog 141 #[h.v, iV c, iV g, iV d, .func (.func 115) #[] #[]] w (fun e w => e = .returned (.tuple #[]) ∧ St w0 ros (row 49 rTi64i64u64 h.v out :: rs) w)) {w0 : World} {ros : List Fact} {rs : List Res} {w : World} {k : List (Int × Int × Int)} {c g d : Int} {h : Hdr} {out : (List (Int × Int × Int))} (i : slices_symMergeCmpFunc_apiEntry_body rec k c g d = some out) (b : St w0 ros (row 49 rTi64i64u64 h.v k :: rs) w) :
  Calls Tryz.prog 141 #[h.v, iV c, iV g, iV d, .func (.func 115) #[] #[]] w (fun e w => e = .returned (.tuple #[]) ∧ St w0 ros (row 49 rTi64i64u64 h.v out :: rs) w) := by
 refine enterQ Tryz.func141 rfl Tryz.ntmps141 rfl fun Q a4 => seqQ fun C6 j4 j6 => sR fun _ j7 => Ym (iV g) e0 (Ym (iV c) e0 (yY (ysub e0 e0) (yY (yeql e0 rfl) (wK j7 ?_))))
 refine cIf e0 i (fun j8 i => ?_) fun j8 i => ?_
 ·refine sR fun _ j9 => Ym (iV g) e0 (Ya (iV g) e0 (wK j9 (sR fun _ k0 => Ym (iV d) e0 (Ya (iV d) e0 (wK k0 (sQ fun _ k6 => blockQ fun k7 k8 => ?_))))))
  refine bE i fun k9 l0 i => ?_
  have l1 : ∀ (I : Int) (f : FV) w, f 0 = h.v → f 1 = iV c → f 10 = iV I → St w0 ros (row 49 rTi64i64u64 h.v k :: rs) w → I = k9 → k7 (.exit 0) (fr 220 f) w := by
   intro I f w l2 l3 l4 b ho
   subst ho
   refine k8 _ _ _ (k6 _ _ (sQ fun _ l5 => sR fun _ l6 => Ym (iV c) (eh l3) (Ya (iV c) e0 (wK l6 (blockQ fun l7 l8 => bE i fun l9 m0 i => ?_)))))
   have m1 : ∀ (a6 : List (Int × Int × Int)) (f : FV) w, St w0 ros (row 49 rTi64i64u64 h.v a6 :: rs) w → a6 = l9 → l7 (.exit 2) (fr 220 f) w := by
    intro a6 f w b ho
    subst ho
    refine l8 _ _ _ (l5 _ _ (wp_ret (j6 _ _ _ rfl ?_)))
    cases i
    exact a4 _ _ _ (fin0r Tryz.results141 ⟨rfl, b⟩)
   refine loopQ (fun s a w => ∃ (a7 : List (Int × Int × Int)) (t : Int) (f : FV), (a7, t) = s ∧ a = fr 220 f ∧ f 0 = h.v ∧ f 10 = iV I ∧ f 13 = iV t ∧ St w0 ros (row 49 rTi64i64u64 h.v a7 :: rs) w) m0 ⟨_, _, _, rfl, rfl, l2, l4, rfl, b⟩ ?_
   rintro _ _ w C7 ⟨a7, t, f, rfl, rfl, G, f0, E, b⟩ o m2 C8 m3 m4
   refine seqQ fun C9 m5 m6 => sR fun _ m7 => Ym (iV t) (eh E) (Ym (iV I) (eh f0) (yY (ysub e0 rfl) (yY (ylss e0 e0) (wK m7 ?_))))
   refine cIf e0 o (fun m8 o => ?_) fun m8 o => ?_
   ·refine wp_skip (m5 _ _ (sQ fun _ m9 => blockQ fun _ n0 => bE o fun a8 f1 o => bE o fun a9 f2 o => bE o fun D0 f3 o => bE o fun D1 f4 o => dR [0, 0, 0, 0, 8, 0, 0, 64, 224, 480, 0, 0, 3072, 7168, 16355, 32739, 65535, 131071] [15, 17] 2 folM ?_))
    replace b := b.drew
    refine Dn [0, 1, 2, 3, 4, 5, 6, 7, 8, 9, 10, 11, 12, 13, 14] [] [15] (yR rfl (m_ h.v (eh G)) (yR rfl (m_ (iV t) (eh E)) (yR rfl (m_ h.v (eh G)) (yR rfl (m_ (iV t) (eh E)) (yR rfl (yadd e0 rfl) (yR rfl (m_ h.v (eh G)) (yR rfl (m_ (iV t) (eh E)) (yR rfl (yadd e0 rfl) (yR rfl (yIa SL_44 e0 e0 b rO0 f1) (yR rfl (yFn ST_49 e0 b rO0 f1 rfl) (yR rfl (m_ h.v (eh G)) (yR rfl (m_ (iV t) (eh E)) (yR rfl (yIa SL_44 e0 e0 b rO0 f2) ?_)))))))))))))
    refine yR rfl (yFn ST_49 e0 b rO0 f2 rfl) (yR rfl (yIs SL_44 e0 e0 b rO0 f3) (Rn QSn ?_))
    refine Lc1 rfl ?_
    refine LT wn (r_stn (cs := [iV a8.1, iV a8.2.1, .int .u64 a8.2.2]) b ST_49 e0 e0 rfl (mkF rfl) f3) fun w b => Dn [16] [2, 3, 4] [17] (yR rfl (yIs SL_44 e0 e0 b rO0 f4) (Rn (yS rfl (m_ h.v (eh G)) (yS rfl (m_ (iV t) (eh E)) (yS rfl (yadd e0 rfl) QSn))) ?_))
    refine Lc1 rfl ?_
    refine LT wn (r_stn (cs := [iV a9.1, iV a9.2.1, .int .u64 a9.2.2]) b ST_49 e0 e0 rfl (mkF rfl) f4) fun w b => Dz [] [] (Rn QSn (n0 _ _ _ (m9 _ _ (wR (Ym (iV t) (eh E) (yY (yadd e0 rfl) (Ya (iV (wa .i64 t 1)) e0 (wN ?_))))))))
    cases o
    exact m3 _ _ _ rfl ⟨_, _, _, rfl, rfl, G, f0, rfl, b⟩
   ·refine wp_exit (m6 _ _ _ rfl ?_)
    cases o
    exact m4 _ _ _ _ rfl rfl (m1 _ _ _ b (m2 _ rfl))
  refine loopQ (fun s a w => ∃ (u x : Int) (f : FV), (u, x) = s ∧ a = fr 220 f ∧ f 0 = h.v ∧ f 1 = iV c ∧ f 4 = .func (.func 115) #[] #[] ∧ f 10 = iV u ∧ f 11 = iV x ∧ St w0 ros (row 49 rTi64i64u64 h.v k :: rs) w) l0 ⟨_, _, _, rfl, rfl, rfl, rfl, rfl, rfl, rfl, b⟩ ?_
  rintro _ _ w n1 ⟨u, x, f, rfl, rfl, J, O, b0, R, b1, b⟩ l n2 D2 n5 n6
  refine seqQ fun D3 n7 o0 => sR fun _ o1 => Ym (iV u) (eh R) (Ym (iV x) (eh b1) (yY (ylss e0 e0) (wK o1 ?_)))
  refine cIf e0 l (fun o2 l => ?_) fun o2 l => ?_
  ·refine wp_skip (n7 _ _ (blockQ fun o5 o6 => sR fun _ o7 => Ym (iV u) (eh R) (Ym (iV x) (eh b1) (yY (yadd e0 e0) (yY (ycv (k' := .u64) (by kernel_rfl) (by kernel_rfl) e0) (yY (yshrc e0 rfl) (yY (ycv (k' := .i64) (by kernel_rfl) (by kernel_rfl) e0) (Ya (iV (wc .i64 (wsrc .u64 (wc .u64 (wa .i64 u x)) 1))) e0 (wK o7 ?_)))))))))
   refine sQ fun _ p0 => bE l fun D4 f5 l => bE l fun D5 f6 l => bE l fun D6 p1 l => dR [0, 0, 0, 6, 14, 0, 0, 96, 224, 511, 1023] [9] 1 folM ?_
   replace b := b.drew
   refine Dn [0, 1, 2, 3, 4, 5, 6, 7, 8] [] [9] (yR rfl (m_ (.func (.func 115) #[] #[]) (eh b0)) (yR rfl (m_ h.v (eh J)) (yR rfl (m_ (iV (wc .i64 (wsrc .u64 (wc .u64 (wa .i64 u x)) 1))) e0) (yR rfl (yIa SL_44 e0 e0 b rO0 f5) (yR rfl (yFn ST_49 e0 b rO0 f5 rfl) (yR rfl (m_ h.v (eh J)) (yR rfl (m_ (iV c) (eh O)) (yR rfl (yIa SL_44 e0 e0 b rO0 f6) (yR rfl (yFn ST_49 e0 b rO0 f6 rfl) (Rn QSn ?_))))))))))
   refine Lc1 rfl ?_
   refine Lk wn (yCallw FN_115 e0 (a2 e0 e0)) (matrix_sorted_1_ok p1 b) ?_
   rintro _ w ⟨rfl, b⟩
   refine ⟨_, rfl, ?_⟩
   refine Dz [10] [] (yR rfl (ylss e0 rfl) (Rn QSn (p0 _ _ ?_)))
   have f7 : ∀ (b2 b3 : Int) (f : FV) w, f 0 = h.v → f 1 = iV c → f 4 = .func (.func 115) #[] #[] → f 10 = iV b2 → f 11 = iV b3 → St w0 ros (row 49 rTi64i64u64 h.v k :: rs) w → slices_symMergeCmpFunc_apiEntry_j5 b2 b3 = some n1 → o5 .normal (fr 220 f) w := by
    intro b2 b3 f w p2 p3 p4 p5 p6 b i
    refine o6 _ _ _ ?_
    cases i
    exact n5 _ _ _ rfl ⟨_, _, _, rfl, rfl, p2, p3, p4, p5, p6, b⟩
   refine cIf e0 l (fun p7 l => ?_) fun p7 l => ?_
   ·exact wR (Ym (iV (wc .i64 (wsrc .u64 (wc .u64 (wa .i64 u x)) 1))) e0 (yY (yadd e0 rfl) (Ya (iV (wa .i64 (wc .i64 (wsrc .u64 (wc .u64 (wa .i64 u x)) 1)) 1)) e0 (wN (f7 _ _ _ _ J O b0 rfl b1 b l)))))
   ·exact wR (Ym (iV (wc .i64 (wsrc .u64 (wc .u64 (wa .i64 u x)) 1))) e0 (Ya (iV (wc .i64 (wsrc .u64 (wc .u64 (wa .i64 u x)) 1))) e0 (wN (f7 _ _ _ _ J O b0 R rfl b l))))
  ·refine wp_exit (o0 _ _ _ rfl ?_)
   cases l
   exact n6 _ _ _ _ rfl rfl (l1 _ _ _ J O R b (n2 _ rfl))
 ·refine wp_skip (j4 _ _ (seqQ fun D7 p8 p9 => sR fun _ q0 => Ym (iV d) e0 (Ym (iV g) e0 (yY (ysub e0 e0) (yY (yeql e0 rfl) (wK q0 ?_))))))
  refine cIf e0 i (fun q1 i => ?_) fun q1 i => ?_
  ·refine sR fun _ q2 => Ym (iV c) e0 (Ya (iV c) e0 (wK q2 (sR fun _ q3 => Ym (iV g) e0 (Ya (iV g) e0 (wK q3 (sQ fun _ q4 => blockQ fun q5 q6 => ?_))))))
   refine bE i fun q7 q8 i => ?_
   have q9 : ∀ (K : Int) (f : FV) w, f 0 = h.v → f 2 = iV g → f 14 = iV K → St w0 ros (row 49 rTi64i64u64 h.v k :: rs) w → K = q7 → q5 (.exit 4) (fr 220 f) w := by
    intro K f w r0 r1 r2 b ho
    subst ho
    refine q6 _ _ _ (q4 _ _ (sQ fun _ r3 => sR fun _ r4 => Ym (iV g) (eh r1) (Ya (iV g) e0 (wK r4 (blockQ fun r5 r6 => bE i fun r7 r8 i => ?_)))))
    have r9 : ∀ (b4 : List (Int × Int × Int)) (f : FV) w, St w0 ros (row 49 rTi64i64u64 h.v b4 :: rs) w → b4 = r7 → r5 (.exit 6) (fr 220 f) w := by
     intro b4 f w b ho
     subst ho
     refine r6 _ _ _ (r3 _ _ (wp_ret (p9 _ _ _ rfl ?_)))
     cases i
     exact a4 _ _ _ (fin0r Tryz.results141 ⟨rfl, b⟩)
    refine loopQ (fun s a w => ∃ (b5 : List (Int × Int × Int)) (y : Int) (f : FV), (b5, y) = s ∧ a = fr 220 f ∧ f 0 = h.v ∧ f 14 = iV K ∧ f 17 = iV y ∧ St w0 ros (row 49 rTi64i64u64 h.v b5 :: rs) w) r8 ⟨_, _, _, rfl, rfl, r0, r2, rfl, b⟩ ?_
    rintro _ _ w D8 ⟨b5, y, f, rfl, rfl, H, f8, F, b⟩ p s0 D9 s1 s2
    refine seqQ fun E0 s3 s4 => sR fun _ s5 => Ym (iV y) (eh F) (Ym (iV K) (eh f8) (yY (ygtr e0 e0) (wK s5 ?_)))
    refine cIf e0 p (fun s6 p => ?_) fun s6 p => ?_
    ·refine wp_skip (s3 _ _ (sQ fun _ s7 => blockQ fun _ s8 => bE p fun b6 f9 p => bE p fun b7 g0 p => bE p fun E1 g1 p => bE p fun E2 g2 p => dR [0, 0, 0, 0, 8, 0, 0, 64, 224, 480, 0, 0, 3072, 7168, 16355, 32739, 65535, 131071] [15, 17] 2 folM ?_))
     replace b := b.drew
     refine Dn [0, 1, 2, 3, 4, 5, 6, 7, 8, 9, 10, 11, 12, 13, 14] [] [15] (yR rfl (m_ h.v (eh H)) (yR rfl (m_ (iV y) (eh F)) (yR rfl (m_ h.v (eh H)) (yR rfl (m_ (iV y) (eh F)) (yR rfl (ysub e0 rfl) (yR rfl (m_ h.v (eh H)) (yR rfl (m_ (iV y) (eh F)) (yR rfl (ysub e0 rfl) (yR rfl (yIa SL_44 e0 e0 b rO0 f9) (yR rfl (yFn ST_49 e0 b rO0 f9 rfl) (yR rfl (m_ h.v (eh H)) (yR rfl (m_ (iV y) (eh F)) (yR rfl (yIa SL_44 e0 e0 b rO0 g0) ?_)))))))))))))
     refine yR rfl (yFn ST_49 e0 b rO0 g0 rfl) (yR rfl (yIs SL_44 e0 e0 b rO0 g1) (Rn QSn ?_))
     refine Lc1 rfl ?_
     refine LT wn (r_stn (cs := [iV b6.1, iV b6.2.1, .int .u64 b6.2.2]) b ST_49 e0 e0 rfl (mkF rfl) g1) fun w b => Dn [16] [2, 3, 4] [17] (yR rfl (yIs SL_44 e0 e0 b rO0 g2) (Rn (yS rfl (m_ h.v (eh H)) (yS rfl (m_ (iV y) (eh F)) (yS rfl (ysub e0 rfl) QSn))) ?_))
     refine Lc1 rfl ?_
     refine LT wn (r_stn (cs := [iV b7.1, iV b7.2.1, .int .u64 b7.2.2]) b ST_49 e0 e0 rfl (mkF rfl) g2) fun w b => Dz [] [] (Rn QSn (s8 _ _ _ (s7 _ _ (wR (Ym (iV y) (eh F) (yY (ysub e0 rfl) (Ya (iV (ws .i64 y 1)) e0 (wN ?_))))))))
     cases p
     exact s1 _ _ _ rfl ⟨_, _, _, rfl, rfl, H, f8, rfl, b⟩
    ·refine wp_exit (s4 _ _ _ rfl ?_)
     cases p
     exact s2 _ _ _ _ rfl rfl (r9 _ _ _ b (s0 _ rfl))
   refine loopQ (fun s a w => ∃ (z A : Int) (f : FV), (z, A) = s ∧ a = fr 220 f ∧ f 0 = h.v ∧ f 2 = iV g ∧ f 4 = .func (.func 115) #[] #[] ∧ f 14 = iV z ∧ f 15 = iV A ∧ St w0 ros (row 49 rTi64i64u64 h.v k :: rs) w) q8 ⟨_, _, _, rfl, rfl, rfl, rfl, rfl, rfl, rfl, b⟩ ?_
   rintro _ _ w s9 ⟨z, A, f, rfl, rfl, L, S, b8, T, b9, b⟩ m t0 E3 t1 t2
   refine seqQ fun E4 t3 t4 => sR fun _ t5 => Ym (iV z) (eh T) (Ym (iV A) (eh b9) (yY (ylss e0 e0) (wK t5 ?_)))
   refine cIf e0 m (fun t6 m => ?_) fun t6 m => ?_
   ·refine wp_skip (t3 _ _ (blockQ fun t7 t8 => sR fun _ t9 => Ym (iV z) (eh T) (Ym (iV A) (eh b9) (yY (yadd e0 e0) (yY (ycv (k' := .u64) (by kernel_rfl) (by kernel_rfl) e0) (yY (yshrc e0 rfl) (yY (ycv (k' := .i64) (by kernel_rfl) (by kernel_rfl) e0) (Ya (iV (wc .i64 (wsrc .u64 (wc .u64 (wa .i64 z A)) 1))) e0 (wK t9 ?_)))))))))
    refine sQ fun _ u0 => bE m fun E5 g3 m => bE m fun E6 g4 m => bE m fun E7 u1 m => dR [0, 0, 0, 6, 14, 0, 0, 96, 224, 511, 1023, 2047] [9] 1 folM ?_
    replace b := b.drew
    refine Dn [0, 1, 2, 3, 4, 5, 6, 7, 8] [] [9] (yR rfl (m_ (.func (.func 115) #[] #[]) (eh b8)) (yR rfl (m_ h.v (eh L)) (yR rfl (m_ (iV g) (eh S)) (yR rfl (yIa SL_44 e0 e0 b rO0 g3) (yR rfl (yFn ST_49 e0 b rO0 g3 rfl) (yR rfl (m_ h.v (eh L)) (yR rfl (m_ (iV (wc .i64 (wsrc .u64 (wc .u64 (wa .i64 z A)) 1))) e0) (yR rfl (yIa SL_44 e0 e0 b rO0 g4) (yR rfl (yFn ST_49 e0 b rO0 g4 rfl) (Rn QSn ?_))))))))))
    refine Lc1 rfl ?_
    refine Lk wn (yCallw FN_115 e0 (a2 e0 e0)) (matrix_sorted_1_ok u1 b) ?_
    rintro _ w ⟨rfl, b⟩
    refine ⟨_, rfl, ?_⟩
    refine Dz [10, 11] [] (yR rfl (ylss e0 rfl) (yR rfl (ynot e0) (Rn QSn (u0 _ _ ?_))))
    have g5 : ∀ (c0 c1 : Int) (f : FV) w, f 0 = h.v → f 2 = iV g → f 4 = .func (.func 115) #[] #[] → f 14 = iV c0 → f 15 = iV c1 → St w0 ros (row 49 rTi64i64u64 h.v k :: rs) w → slices_symMergeCmpFunc_apiEntry_j10 c0 c1 = some s9 → t7 .normal (fr 220 f) w := by
     intro c0 c1 f w u2 u3 u4 u5 u6 b i
     refine t8 _ _ _ ?_
     cases i
     exact t1 _ _ _ rfl ⟨_, _, _, rfl, rfl, u2, u3, u4, u5, u6, b⟩
    rcases iteS m with ⟨c2, m⟩ | ⟨c2, m⟩
    ·exact condF e0 (nF (dT c2)) (wR (Ym (iV (wc .i64 (wsrc .u64 (wc .u64 (wa .i64 z A)) 1))) e0 (Ya (iV (wc .i64 (wsrc .u64 (wc .u64 (wa .i64 z A)) 1))) e0 (wN (g5 _ _ _ _ L S b8 T rfl b m)))))
    ·exact condT e0 (nT (dF c2)) (wR (Ym (iV (wc .i64 (wsrc .u64 (wc .u64 (wa .i64 z A)) 1))) e0 (yY (yadd e0 rfl) (Ya (iV (wa .i64 (wc .i64 (wsrc .u64 (wc .u64 (wa .i64 z A)) 1)) 1)) e0 (wN (g5 _ _ _ _ L S b8 rfl b9 b m))))))
   ·refine wp_exit (t4 _ _ _ rfl ?_)
    cases m
    exact t2 _ _ _ _ rfl rfl (q9 _ _ _ L S T b (t0 _ rfl))
  ·refine wp_skip (p8 _ _ (sR fun _ u7 => Ym (iV c) e0 (Ym (iV d) e0 (yY (yadd e0 e0) (yY (ycv (k' := .u64) (by kernel_rfl) (by kernel_rfl) e0) (yY (yshrc e0 rfl) (yY (ycv (k' := .i64) (by kernel_rfl) (by kernel_rfl) e0) (Ya (iV (wc .i64 (wsrc .u64 (wc .u64 (wa .i64 c d)) 1))) e0 (wK u7 (sQ fun _ u8 => ?_))))))))))
   refine wR (Ym (iV (wc .i64 (wsrc .u64 (wc .u64 (wa .i64 c d)) 1))) e0 (Ym (iV g) e0 (yY (yadd e0 e0) (Ya (iV (wa .i64 (wc .i64 (wsrc .u64 (wc .u64 (wa .i64 c d)) 1)) g)) e0 (wK u8 (sR fun _ u9 => Ya (iV 0) rfl (Ya (iV 0) rfl (wK u9 (sQ fun v0 v1 => ?_)))))))))
   refine sR fun _ v2 => Ym (iV g) e0 (Ym (iV (wc .i64 (wsrc .u64 (wc .u64 (wa .i64 c d)) 1))) e0 (yY (ygtr e0 e0) (wK v2 ?_)))
   have g6 : ∀ (c3 c4 : Int) (f : FV) w, f 0 = h.v → f 1 = iV c → f 2 = iV g → f 3 = iV d → f 4 = .func (.func 115) #[] #[] → f 18 = iV (wc .i64 (wsrc .u64 (wc .u64 (wa .i64 c d)) 1)) → f 19 = iV (wa .i64 (wc .i64 (wsrc .u64 (wc .u64 (wa .i64 c d)) 1)) g) → f 20 = iV c3 → f 21 = iV c4 → St w0 ros (row 49 rTi64i64u64 h.v k :: rs) w → slices_symMergeCmpFunc_apiEntry_j11 rec k c d g c3 c4 = some out → v0 .normal (fr 220 f) w := by
    intro c3 c4 f w v3 v4 v5 v6 v7 v8 g7 v9 w1 b i
    refine v1 _ _ (sR fun _ w2 => Ym (iV (wa .i64 (wc .i64 (wsrc .u64 (wc .u64 (wa .i64 c d)) 1)) g)) (eh g7) (yY (ysub e0 rfl) (Ya (iV (ws .i64 (wa .i64 (wc .i64 (wsrc .u64 (wc .u64 (wa .i64 c d)) 1)) g) 1)) e0 (wK w2 (sQ fun _ w3 => blockQ fun w4 w5 => bE i fun w6 w7 i => ?_)))))
    have w8 : ∀ (j : Int) (f : FV) w, f 0 = h.v → f 1 = iV c → f 2 = iV g → f 3 = iV d → f 4 = .func (.func 115) #[] #[] → f 18 = iV (wc .i64 (wsrc .u64 (wc .u64 (wa .i64 c d)) 1)) → f 19 = iV (wa .i64 (wc .i64 (wsrc .u64 (wc .u64 (wa .i64 c d)) 1)) g) → f 20 = iV j → St w0 ros (row 49 rTi64i64u64 h.v k :: rs) w → j = w6 → w4 (.exit 8) (fr 220 f) w := by
     intro j f w g8 g9 U h0 h1 h3 w9 V b ho
     subst ho
     refine w5 _ _ _ (w3 _ _ (sR fun _ x0 => Ym (iV (wa .i64 (wc .i64 (wsrc .u64 (wc .u64 (wa .i64 c d)) 1)) g)) (eh w9) (Ym (iV j) (eh V) (yY (ysub e0 e0) (Ya (iV (ws .i64 (wa .i64 (wc .i64 (wsrc .u64 (wc .u64 (wa .i64 c d)) 1)) g) j)) e0 (wK x0 (sQ fun x2 x6 => sR fun _ x7 => Ym (iV j) (eh V) ?_)))))))
     refine Ym (iV g) (eh U) (yY (ylss e0 e0) (Ym (.bool (decide (j < g))) e0 ?_))
     refine joinW 4 (fun f w => f 0 = h.v ∧ f 1 = iV c ∧ f 2 = iV g ∧ f 3 = iV d ∧ f 4 = .func (.func 115) #[] #[] ∧ f 18 = iV (wc .i64 (wsrc .u64 (wc .u64 (wa .i64 c d)) 1)) ∧ f 20 = iV j ∧ f 24 = iV (ws .i64 (wa .i64 (wc .i64 (wsrc .u64 (wc .u64 (wa .i64 c d)) 1)) g) j) ∧ f 185 = .bool ((decide (j < g)) && (decide (g < (ws .i64 (wa .i64 (wc .i64 (wsrc .u64 (wc .u64 (wa .i64 c d)) 1)) g) j)))) ∧ St w0 ros (row 49 rTi64i64u64 h.v k :: rs) w) (fun h4 => ?_) ?_
     ·rcases Bool.eq_false_or_eq_true (decide (j < g)) with B | B
      ·exact yG B (m_ (iV g) (eh U)) (yG B (m_ (iV (ws .i64 (wa .i64 (wc .i64 (wsrc .u64 (wc .u64 (wa .i64 c d)) 1)) g) j)) e0) (yG B (ylss e0 e0) (yY (pt_ (.bool (decide (g < (ws .i64 (wa .i64 (wc .i64 (wsrc .u64 (wc .u64 (wa .i64 c d)) 1)) g) j)))) e0 B e0) (h4 _ _ ⟨g8, g9, U, h0, h1, h3, V, rfl, (congrArg Value.bool (andT B)), b⟩))))
      ·exact gN B (gN B (gN B (yY (pf_ (.bool false) e0 B rfl) (h4 _ _ ⟨g8, g9, U, h0, h1, h3, V, rfl, (congrArg Value.bool (andF B)), b⟩))))
     rintro f w ⟨c5, h5, x8, h6, c7, h7, c8, c9, x9, b⟩
     refine wK x7 ?_
     have h8 : ∀ (W : List (Int × Int × Int)) (f : FV) w, f 0 = h.v → f 1 = iV c → f 3 = iV d → f 4 = .func (.func 115) #[] #[] → f 18 = iV (wc .i64 (wsrc .u64 (wc .u64 (wa .i64 c d)) 1)) → f 20 = iV j → f 24 = iV (ws .i64 (wa .i64 (wc .i64 (wsrc .u64 (wc .u64 (wa .i64 c d)) 1)) g) j) → St w0 ros (row 49 rTi64i64u64 h.v W :: rs) w → slices_symMergeCmpFunc_apiEntry_j16 rec c j d g W = some out → x2 .normal (fr 220 f) w := by
      intro W f w h9 d0 i0 i1 d1 X i2 b i
      refine x6 _ _ (sQ fun y0 y1 => sR fun _ y2 => Ym (iV c) (eh d0) (Ym (iV j) (eh X) (yY (ylss e0 e0) (Ym (.bool (decide (c < j))) e0 ?_))))
      refine joinW 4 (fun f w => f 0 = h.v ∧ f 1 = iV c ∧ f 3 = iV d ∧ f 4 = .func (.func 115) #[] #[] ∧ f 18 = iV (wc .i64 (wsrc .u64 (wc .u64 (wa .i64 c d)) 1)) ∧ f 20 = iV j ∧ f 24 = iV (ws .i64 (wa .i64 (wc .i64 (wsrc .u64 (wc .u64 (wa .i64 c d)) 1)) g) j) ∧ f 199 = .bool ((decide (c < j)) && (decide (j < (wc .i64 (wsrc .u64 (wc .u64 (wa .i64 c d)) 1))))) ∧ St w0 ros (row 49 rTi64i64u64 h.v W :: rs) w) (fun i3 => ?_) ?_
      ·rcases Bool.eq_false_or_eq_true (decide (c < j)) with C | C
       ·exact yG C (m_ (iV j) (eh X)) (yG C (m_ (iV (wc .i64 (wsrc .u64 (wc .u64 (wa .i64 c d)) 1))) (eh d1)) (yG C (ylss e0 e0) (yY (pt_ (.bool (decide (j < (wc .i64 (wsrc .u64 (wc .u64 (wa .i64 c d)) 1))))) e0 C e0) (i3 _ _ ⟨h9, d0, i0, i1, d1, X, i2, (congrArg Value.bool (andT C)), b⟩))))
       ·exact gN C (gN C (gN C (yY (pf_ (.bool false) e0 C rfl) (i3 _ _ ⟨h9, d0, i0, i1, d1, X, i2, (congrArg Value.bool (andF C)), b⟩))))
      rintro f w ⟨d2, y3, i4, d3, d4, y4, i5, y5, b⟩
      refine wK y2 ?_
      have i6 : ∀ (Z : List (Int × Int × Int)) (f : FV) w, f 0 = h.v → f 3 = iV d → f 4 = .func (.func 115) #[] #[] → f 18 = iV (wc .i64 (wsrc .u64 (wc .u64 (wa .i64 c d)) 1)) → f 24 = iV (ws .i64 (wa .i64 (wc .i64 (wsrc .u64 (wc .u64 (wa .i64 c d)) 1)) g) j) → St w0 ros (row 49 rTi64i64u64 h.v Z :: rs) w → slices_symMergeCmpFunc_apiEntry_j18 rec c d g j Z = some out → y0 .normal (fr 220 f) w := by
       intro Z f w i7 d5 i8 d6 a0 b i
       refine y1 _ _ (sR fun _ y6 => Ym (iV (wc .i64 (wsrc .u64 (wc .u64 (wa .i64 c d)) 1))) (eh d6) (Ym (iV (ws .i64 (wa .i64 (wc .i64 (wsrc .u64 (wc .u64 (wa .i64 c d)) 1)) g) j)) (eh a0) (yY (ylss e0 e0) (Ym (.bool (decide ((wc .i64 (wsrc .u64 (wc .u64 (wa .i64 c d)) 1)) < (ws .i64 (wa .i64 (wc .i64 (wsrc .u64 (wc .u64 (wa .i64 c d)) 1)) g) j)))) e0 ?_))))
       refine joinW 4 (fun f w => f 0 = h.v ∧ f 3 = iV d ∧ f 4 = .func (.func 115) #[] #[] ∧ f 18 = iV (wc .i64 (wsrc .u64 (wc .u64 (wa .i64 c d)) 1)) ∧ f 24 = iV (ws .i64 (wa .i64 (wc .i64 (wsrc .u64 (wc .u64 (wa .i64 c d)) 1)) g) j) ∧ f 213 = .bool ((decide ((wc .i64 (wsrc .u64 (wc .u64 (wa .i64 c d)) 1)) < (ws .i64 (wa .i64 (wc .i64 (wsrc .u64 (wc .u64 (wa .i64 c d)) 1)) g) j))) && (decide ((ws .i64 (wa .i64 (wc .i64 (wsrc .u64 (wc .u64 (wa .i64 c d)) 1)) g) j) < d))) ∧ St w0 ros (row 49 rTi64i64u64 h.v Z :: rs) w) (fun i9 => ?_) ?_
       ·rcases Bool.eq_false_or_eq_true (decide ((wc .i64 (wsrc .u64 (wc .u64 (wa .i64 c d)) 1)) < (ws .i64 (wa .i64 (wc .i64 (wsrc .u64 (wc .u64 (wa .i64 c d)) 1)) g) j))) with D | D
        ·exact yG D (m_ (iV (ws .i64 (wa .i64 (wc .i64 (wsrc .u64 (wc .u64 (wa .i64 c d)) 1)) g) j)) (eh a0)) (yG D (m_ (iV d) (eh d5)) (yG D (ylss e0 e0) (yY (pt_ (.bool (decide ((ws .i64 (wa .i64 (wc .i64 (wsrc .u64 (wc .u64 (wa .i64 c d)) 1)) g) j) < d))) e0 D e0) (i9 _ _ ⟨i7, d5, i8, d6, a0, (congrArg Value.bool (andT D)), b⟩))))
        ·exact gN D (gN D (gN D (yY (pf_ (.bool false) e0 D rfl) (i9 _ _ ⟨i7, d5, i8, d6, a0, (congrArg Value.bool (andF D)), b⟩))))
       rintro f w ⟨y7, y8, y9, z0, z2, z3, b⟩
       refine wK y6 ?_
       have j0 : ∀ (d7 : List (Int × Int × Int)) (f : FV) w, St w0 ros (row 49 rTi64i64u64 h.v d7 :: rs) w → slices_symMergeCmpFunc_apiEntry_j20 d7 = some out → Q .normal (fr 220 f) w := by
        intro d7 f w b i
        cases i
        exact a4 _ _ _ (fin0n Tryz.results141 ⟨rfl, b⟩)
       refine cB (eh z3) i (fun z4 i => ?_) fun z4 i => ?_
       ·refine wR (Ym h.v (eh y7) (Ym (iV (wc .i64 (wsrc .u64 (wc .u64 (wa .i64 c d)) 1))) (eh z0) (Ym (iV (ws .i64 (wa .i64 (wc .i64 (wsrc .u64 (wc .u64 (wa .i64 c d)) 1)) g) j)) (eh z2) (Ym (iV d) (eh y8) (Ym (.func (.func 115) #[] #[]) (eh y9) (bE i fun E8 z5 i => yC (yCall FN_141 (a5 e0 e0 e0 e0 e0)) (e9 z5 b) ?_))))))
        rintro _ w ⟨rfl, b⟩
        refine ⟨_, rfl, ?_⟩
        exact wN (j0 _ _ _ b i)
       ·exact wp_skip (j0 _ _ _ b i)
      refine cB (eh y5) i (fun z6 i => ?_) fun z6 i => ?_
      ·refine wR (Ym h.v (eh d2) (Ym (iV c) (eh y3) (Ym (iV j) (eh y4) (Ym (iV (wc .i64 (wsrc .u64 (wc .u64 (wa .i64 c d)) 1))) (eh d4) (Ym (.func (.func 115) #[] #[]) (eh d3) (bE i fun E9 z7 i => yC (yCall FN_141 (a5 e0 e0 e0 e0 e0)) (e9 z7 b) ?_))))))
       rintro _ w ⟨rfl, b⟩
       refine ⟨_, rfl, ?_⟩
       exact wN (i6 _ _ _ d2 i4 d3 d4 i5 b i)
      ·exact wp_skip (i6 _ _ _ d2 i4 d3 d4 i5 b i)
     refine cB (eh x9) i (fun z8 i => ?_) fun z8 i => ?_
     ·refine wR (Ym h.v (eh c5) (Ym (iV j) (eh c8) (Ym (iV g) (eh x8) (Ym (iV (ws .i64 (wa .i64 (wc .i64 (wsrc .u64 (wc .u64 (wa .i64 c d)) 1)) g) j)) (eh c9) (Ym (.func (.func 115) #[] #[]) (eh c7) (bE i fun F0 z9 i => yC (yCall FN_142 (a5 e0 e0 e0 e0 e0)) (slices_rotateCmpFunc_apiEntry_ok z9 b) ?_))))))
      rintro _ w ⟨rfl, b⟩
      refine ⟨_, rfl, ?_⟩
      exact wN (h8 _ _ _ c5 h5 h6 c7 h7 c8 c9 b i)
     ·exact wp_skip (h8 _ _ _ c5 h5 h6 c7 h7 c8 c9 b i)
    refine loopQ (fun s a w => ∃ (q r : Int) (f : FV), (q, r) = s ∧ a = fr 220 f ∧ f 0 = h.v ∧ f 1 = iV c ∧ f 2 = iV g ∧ f 3 = iV d ∧ f 4 = .func (.func 115) #[] #[] ∧ f 18 = iV (wc .i64 (wsrc .u64 (wc .u64 (wa .i64 c d)) 1)) ∧ f 19 = iV (wa .i64 (wc .i64 (wsrc .u64 (wc .u64 (wa .i64 c d)) 1)) g) ∧ f 20 = iV q ∧ f 21 = iV r ∧ f 22 = iV (ws .i64 (wa .i64 (wc .i64 (wsrc .u64 (wc .u64 (wa .i64 c d)) 1)) g) 1) ∧ St w0 ros (row 49 rTi64i64u64 h.v k :: rs) w) w7 ⟨_, _, _, rfl, rfl, v3, v4, v5, v6, v7, v8, g7, v9, w1, rfl, b⟩ ?_
    rintro _ _ w A0 ⟨q, r, f, rfl, rfl, N, d8, d9, e1, a1, e2, e3, a3, e4, e5, b⟩ n A1 F1 A2 A3
    refine seqQ fun F2 A4 A5 => sR fun _ A6 => Ym (iV q) (eh a3) (Ym (iV r) (eh e4) (yY (ylss e0 e0) (wK A6 ?_)))
    refine cIf e0 n (fun A7 n => ?_) fun A7 n => ?_
    ·refine wp_skip (A4 _ _ (blockQ fun A8 A9 => sR fun _ B0 => Ym (iV q) (eh a3) (Ym (iV r) (eh e4) (yY (yadd e0 e0) (yY (ycv (k' := .u64) (by kernel_rfl) (by kernel_rfl) e0) (yY (yshrc e0 rfl) (yY (ycv (k' := .i64) (by kernel_rfl) (by kernel_rfl) e0) (Ya (iV (wc .i64 (wsrc .u64 (wc .u64 (wa .i64 q r)) 1))) e0 (wK B0 ?_)))))))))
     refine sQ fun _ B1 => bE n fun F3 j1 n => bE n fun F4 j2 n => bE n fun F5 B2 n => dR [0, 0, 0, 0, 12, 30, 62, 0, 0, 384, 896, 2047, 4095, 8191] [11] 1 folM ?_
     replace b := b.drew
     refine Dn [0, 1, 2, 3, 4, 5, 6, 7, 8, 9, 10] [] [11] (yR rfl (m_ (.func (.func 115) #[] #[]) (eh a1)) (yR rfl (m_ h.v (eh N)) (yR rfl (m_ (iV (ws .i64 (wa .i64 (wc .i64 (wsrc .u64 (wc .u64 (wa .i64 c d)) 1)) g) 1)) (eh e5)) (yR rfl (m_ (iV (wc .i64 (wsrc .u64 (wc .u64 (wa .i64 q r)) 1))) e0) (yR rfl (ysub e0 e0) (yR rfl (yIa SL_44 e0 e0 b rO0 j1) (yR rfl (yFn ST_49 e0 b rO0 j1 rfl) (yR rfl (m_ h.v (eh N)) (yR rfl (m_ (iV (wc .i64 (wsrc .u64 (wc .u64 (wa .i64 q r)) 1))) e0) (yR rfl (yIa SL_44 e0 e0 b rO0 j2) (yR rfl (yFn ST_49 e0 b rO0 j2 rfl) (Rn QSn ?_))))))))))))
     refine Lc1 rfl ?_
     refine Lk wn (yCallw FN_115 e0 (a2 e0 e0)) (matrix_sorted_1_ok B2 b) ?_
     rintro _ w ⟨rfl, b⟩
     refine ⟨_, rfl, ?_⟩
     refine Dz [12, 13] [] (yR rfl (ylss e0 rfl) (yR rfl (ynot e0) (Rn QSn (B1 _ _ ?_))))
     have j3 : ∀ (e6 e7 : Int) (f : FV) w, f 0 = h.v → f 1 = iV c → f 2 = iV g → f 3 = iV d → f 4 = .func (.func 115) #[] #[] → f 18 = iV (wc .i64 (wsrc .u64 (wc .u64 (wa .i64 c d)) 1)) → f 19 = iV (wa .i64 (wc .i64 (wsrc .u64 (wc .u64 (wa .i64 c d)) 1)) g) → f 20 = iV e6 → f 21 = iV e7 → f 22 = iV (ws .i64 (wa .i64 (wc .i64 (wsrc .u64 (wc .u64 (wa .i64 c d)) 1)) g) 1) → St w0 ros (row 49 rTi64i64u64 h.v k :: rs) w → slices_symMergeCmpFunc_apiEntry_j21 e6 e7 = some A0 → A8 .normal (fr 220 f) w := by
      intro e6 e7 f w B3 B4 B5 B6 B7 B8 B9 C0 C1 C2 b i
      refine A9 _ _ _ ?_
      cases i
      exact A2 _ _ _ rfl ⟨_, _, _, rfl, rfl, B3, B4, B5, B6, B7, B8, B9, C0, C1, C2, b⟩
     rcases iteS n with ⟨e8, n⟩ | ⟨e8, n⟩
     ·exact condF e0 (nF (dT e8)) (wR (Ym (iV (wc .i64 (wsrc .u64 (wc .u64 (wa .i64 q r)) 1))) e0 (Ya (iV (wc .i64 (wsrc .u64 (wc .u64 (wa .i64 q r)) 1))) e0 (wN (j3 _ _ _ _ N d8 d9 e1 a1 e2 e3 a3 rfl e5 b n)))))
     ·exact condT e0 (nT (dF e8)) (wR (Ym (iV (wc .i64 (wsrc .u64 (wc .u64 (wa .i64 q r)) 1))) e0 (yY (yadd e0 rfl) (Ya (iV (wa .i64 (wc .i64 (wsrc .u64 (wc .u64 (wa .i64 q r)) 1)) 1)) e0 (wN (j3 _ _ _ _ N d8 d9 e1 a1 e2 e3 rfl e4 e5 b n))))))
    ·refine wp_exit (A5 _ _ _ rfl ?_)
     cases n
     exact A3 _ _ _ _ rfl rfl (w8 _ _ _ N d8 d9 e1 a1 e2 e3 a3 b (A1 _ rfl))
   refine cIf e0 i (fun C3 i => ?_) fun C3 i => ?_
   ·exact sR fun _ C4 => Ym (iV (wa .i64 (wc .i64 (wsrc .u64 (wc .u64 (wa .i64 c d)) 1)) g)) e0 (Ym (iV d) e0 (yY (ysub e0 e0) (Ya (iV (ws .i64 (wa .i64 (wc .i64 (wsrc .u64 (wc .u64 (wa .i64 c d)) 1)) g) d)) e0 (wK C4 (wR (Ym (iV (wc .i64 (wsrc .u64 (wc .u64 (wa .i64 c d)) 1))) e0 (Ya (iV (wc .i64 (wsrc .u64 (wc .u64 (wa .i64 c d)) 1))) e0 (wN (g6 _ _ _ _ rfl rfl rfl rfl rfl rfl rfl rfl rfl b i)))))))))
   ·exact sR fun _ C5 => Ym (iV c) e0 (Ya (iV c) e0 (wK C5 (wR (Ym (iV g) e0 (Ya (iV g) e0 (wN (g6 _ _ _ _ rfl rfl rfl rfl rfl rfl rfl rfl rfl b i)))))))
theorem slices_symMergeCmpFunc_apiEntry_ok_n (n : Nat) : ∀ {w0 : World} {ros : List Fact} {rs : List Res} {w : World} {c : List (Int × Int × Int)} {d f g : Int} {b : Hdr} {out : (List (Int × Int × Int))} (a : slices_symMergeCmpFunc_apiEntry n c d f g = some out) (h : St w0 ros (row 49 rTi64i64u64 b.v c :: rs) w),
  Calls Tryz.prog 141 #[b.v, iV d, iV f, iV g, .func (.func 115) #[] #[]] w (fun e w => e = .returned (.tuple #[]) ∧ St w0 ros (row 49 rTi64i64u64 b.v out :: rs) w) := by
 induction n with
 | zero => intro _ _ _ _ _ _ _ _ _ out a; cases a
 | succ n ih => exact fun a h => slices_symMergeCmpFunc_apiEntry_step (rec := slices_symMergeCmpFunc_apiEntry n) ih a h
theorem slices_symMergeCmpFunc_apiEntry_ok {b : List (Int × Int × Int)} {c d f : Int} {a : Hdr} {out : (List (Int × Int × Int))} (g : slices_symMergeCmpFunc_apiEntry FUEL b c d f = some out) (h : St w0 ros (row 49 rTi64i64u64 a.v b :: rs) w) :
  Calls Tryz.prog 141 #[a.v, iV c, iV d, iV f, .func (.func 115) #[] #[]] w (fun e w => e = .returned (.tuple #[]) ∧ St w0 ros (row 49 rTi64i64u64 a.v out :: rs) w) := slices_symMergeCmpFunc_apiEntry_ok_n FUEL g h
theorem slices_stableCmpFunc_apiEntry_ok {U : List (Int × Int × Int)} {g : Int} {c : Hdr} {out : (List (Int × Int × Int))} (i : slices_stableCmpFunc_apiEntry U g = some out) (b : St w0 ros (row 49 rTi64i64u64 c.v U :: rs) w) :
  Calls Tryz.prog 134 #[c.v, iV g, .func (.func 115) #[] #[]] w (fun e w => e = .returned (.tuple #[]) ∧ St w0 ros (row 49 rTi64i64u64 c.v out :: rs) w) := by
 refine enterQ Tryz.func134 rfl Tryz.ntmps134 rfl fun Q a3 => sR fun _ a6 => Ya (iV 20) rfl (wK a6 (sR fun _ a7 => Ym (iV 20) e0 (Ya (iV 0) rfl (Ya (iV 20) e0 (wK a7 (sQ fun _ a8 => ?_))))))
 refine blockQ fun a9 b0 => bE i fun b1 b2 i => ?_
 have b3 : ∀ (y : List (Int × Int × Int)) (p : Int) (f : FV) w, f 0 = c.v → f 1 = iV g → f 2 = .func (.func 115) #[] #[] → f 6 = iV 20 → f 7 = iV p → St w0 ros (row 49 rTi64i64u64 c.v y :: rs) w → (y, p) = b1 → a9 (.exit 0) (fr 63 f) w := by
  intro y p f w V W X b4 b5 b ho
  subst ho
  refine b0 _ _ _ (a8 _ _ (sR fun _ b6 => Ym c.v (eh V) (Ym (iV p) (eh b5) (Ym (iV g) (eh W) (Ym (.func (.func 115) #[] #[]) (eh X) (bE i fun h5 b7 i => yC (yCall FN_140 (a4 e0 e0 e0 e0)) (slices_insertionSortCmpFunc_apiEntry_ok b7 b) ?_))))))
  rintro _ w ⟨rfl, b⟩
  refine ⟨_, rfl, ?_⟩
  refine wK b6 (blockQ fun b8 b9 => bE i fun c0 c1 i => ?_)
  have c2 : ∀ (z : List (Int × Int × Int)) (f : FV) w, St w0 ros (row 49 rTi64i64u64 c.v z :: rs) w → z = c0 → b8 (.exit 2) (fr 63 f) w := by
   intro z f w b ho
   subst ho
   refine b9 _ _ _ ?_
   cases i
   exact a3 _ _ _ (fin0n Tryz.results134 ⟨rfl, b⟩)
  refine loopQ (fun s a w => ∃ (A : List (Int × Int × Int)) (d : Int) (f : FV), (A, d) = s ∧ a = fr 63 f ∧ f 0 = c.v ∧ f 1 = iV g ∧ f 2 = .func (.func 115) #[] #[] ∧ f 6 = iV d ∧ St w0 ros (row 49 rTi64i64u64 c.v A :: rs) w) c1 ⟨_, _, _, rfl, rfl, V, W, X, b4, b⟩ ?_
  rintro _ _ w c3 ⟨A, d, f, rfl, rfl, c4, Z, c5, B, b⟩ h c6 h6 c7 c8
  refine seqQ fun h7 c9 d0 => sR fun _ d1 => Ym (iV d) (eh B) (Ym (iV g) (eh Z) (yY (ylss e0 e0) (wK d1 ?_)))
  refine cIf e0 h (fun d2 h => ?_) fun d2 h => ?_
  ·refine wp_skip (c9 _ _ (blockQ fun _ d3 => sR fun _ d4 => Ym (iV d) (eh B) (yY (ymul rfl e0) (Ya (iV 0) rfl (Ya (iV (wm .i64 2 d)) e0 (wK d4 (sQ fun _ d5 => blockQ fun d6 d7 => bE h fun d8 d9 h => ?_)))))))
   have e1 : ∀ (C : List (Int × Int × Int)) (l : Int) (f : FV) w, f 0 = c.v → f 1 = iV g → f 2 = .func (.func 115) #[] #[] → f 6 = iV d → f 7 = iV l → St w0 ros (row 49 rTi64i64u64 c.v C :: rs) w → (C, l) = d8 → d6 (.exit 4) (fr 63 f) w := by
    intro C l f w D q E F a0 b ho
    subst ho
    refine d7 _ _ _ (d5 _ _ (sQ fun e2 e3 => sR fun _ e4 => Ym (iV l) (eh a0) (Ym (iV d) (eh F) (yY (yadd e0 e0) (Ya (iV (wa .i64 l d)) e0 (wK e4 (sR fun _ e5 => Ym (iV (wa .i64 l d)) e0 ?_)))))))
    refine Ym (iV g) (eh q) (yY (ylss e0 e0) (wK e5 ?_))
    have a1 : ∀ (G : List (Int × Int × Int)) (f : FV) w, f 0 = c.v → f 1 = iV g → f 2 = .func (.func 115) #[] #[] → f 6 = iV d → St w0 ros (row 49 rTi64i64u64 c.v G :: rs) w → slices_stableCmpFunc_apiEntry_j8 d G = some c3 → e2 .normal (fr 63 f) w := by
     intro G f w e6 e7 e8 e9 b i
     refine e3 _ _ (wR (Ym (iV d) (eh e9) (yY (ymul e0 rfl) (Ya (iV (wm .i64 d 2)) e0 (wN (d3 _ _ _ ?_))))))
     cases i
     exact c7 _ _ _ rfl ⟨_, _, _, rfl, rfl, e6, e7, e8, rfl, b⟩
    refine cIf e0 h (fun f0 h => ?_) fun f0 h => ?_
    ·refine wR (Ym c.v (eh D) (Ym (iV l) (eh a0) (Ym (iV (wa .i64 l d)) e0 (Ym (iV g) (eh q) (Ym (.func (.func 115) #[] #[]) (eh E) (bE h fun h8 f1 h => yC (yCall FN_141 (a5 e0 e0 e0 e0 e0)) (slices_symMergeCmpFunc_apiEntry_ok f1 b) ?_))))))
     rintro _ w ⟨rfl, b⟩
     refine ⟨_, rfl, ?_⟩
     exact wN (a1 _ _ _ D q E F b h)
    ·exact wp_skip (a1 _ _ _ D q E F b h)
   refine loopQ (fun s a w => ∃ (H : List (Int × Int × Int)) (o j : Int) (f : FV), (H, o, j) = s ∧ a = fr 63 f ∧ f 0 = c.v ∧ f 1 = iV g ∧ f 2 = .func (.func 115) #[] #[] ∧ f 6 = iV d ∧ f 7 = iV o ∧ f 8 = iV j ∧ St w0 ros (row 49 rTi64i64u64 c.v H :: rs) w) d9 ⟨_, _, _, _, rfl, rfl, c4, Z, c5, B, rfl, rfl, b⟩ ?_
   rintro _ _ w h9 ⟨H, o, j, f, rfl, rfl, I, J, K, r, L, t, b⟩ m f2 i0 f3 f4
   refine seqQ fun i1 f5 f6 => sR fun _ f7 => Ym (iV j) (eh t) (Ym (iV g) (eh J) (yY (yleq e0 e0) (wK f7 ?_)))
   refine cIf e0 m (fun f8 m => ?_) fun f8 m => ?_
   ·refine wp_skip (f5 _ _ (blockQ fun _ f9 => sR fun _ g0 => Ym c.v (eh I) (Ym (iV o) (eh L) (Ym (iV o) (eh L) (Ym (iV d) (eh r) (yY (yadd e0 e0) (Ym (iV j) (eh t) (Ym (.func (.func 115) #[] #[]) (eh K) (bE m fun i2 g1 m => yC (yCall FN_141 (a5 e0 e0 e0 e0 e0)) (slices_symMergeCmpFunc_apiEntry_ok g1 b) ?_)))))))))
    rintro _ w ⟨rfl, b⟩
    refine ⟨_, rfl, ?_⟩
    refine wK g0 (sR fun _ g2 => Ym (iV j) (eh t) (Ya (iV j) e0 (wK g2 (wR (Ym (iV j) (eh t) (Ym (iV d) (eh r) (yY (ymul rfl e0) (yY (yadd e0 e0) (Ya (iV (wa .i64 j (wm .i64 2 d))) e0 ?_)))))))))
    refine wN (f9 _ _ _ ?_)
    cases m
    exact f3 _ _ _ rfl ⟨_, _, _, _, rfl, rfl, I, J, K, r, rfl, rfl, b⟩
   ·refine wp_exit (f6 _ _ _ rfl ?_)
    cases m
    exact f4 _ _ _ _ rfl rfl (e1 _ _ _ _ I J K r L b (f2 _ rfl))
  ·refine wp_exit (d0 _ _ _ rfl ?_)
   cases h
   exact c8 _ _ _ _ rfl rfl (c2 _ _ _ b (c6 _ rfl))
 refine loopQ (fun s a w => ∃ (N : List (Int × Int × Int)) (u k : Int) (f : FV), (N, u, k) = s ∧ a = fr 63 f ∧ f 0 = c.v ∧ f 1 = iV g ∧ f 2 = .func (.func 115) #[] #[] ∧ f 6 = iV 20 ∧ f 7 = iV u ∧ f 8 = iV k ∧ St w0 ros (row 49 rTi64i64u64 c.v N :: rs) w) b2 ⟨_, _, _, _, rfl, rfl, rfl, rfl, rfl, rfl, rfl, rfl, b⟩ ?_
 rintro _ _ w i3 ⟨N, u, k, f, rfl, rfl, O, R, S, T, a2, x, b⟩ n g3 i4 g4 g5
 refine seqQ fun i5 g6 g7 => sR fun _ g8 => Ym (iV k) (eh x) (Ym (iV g) (eh R) (yY (yleq e0 e0) (wK g8 ?_)))
 refine cIf e0 n (fun g9 n => ?_) fun g9 n => ?_
 ·refine wp_skip (g6 _ _ (blockQ fun _ h0 => sR fun _ h1 => Ym c.v (eh O) (Ym (iV u) (eh a2) (Ym (iV k) (eh x) (Ym (.func (.func 115) #[] #[]) (eh S) (bE n fun i6 h3 n => yC (yCall FN_140 (a4 e0 e0 e0 e0)) (slices_insertionSortCmpFunc_apiEntry_ok h3 b) ?_))))))
  rintro _ w ⟨rfl, b⟩
  refine ⟨_, rfl, ?_⟩
  refine wK h1 (sR fun _ h4 => Ym (iV k) (eh x) (Ya (iV k) e0 (wK h4 (wR (Ym (iV k) (eh x) (Ym (iV 20) (eh T) (yY (yadd e0 e0) (Ya (iV (wa .i64 k 20)) e0 (wN ?_)))))))))
  refine h0 _ _ _ ?_
  cases n
  exact g4 _ _ _ rfl ⟨_, _, _, _, rfl, rfl, O, R, S, T, rfl, rfl, b⟩
 ·refine wp_exit (g7 _ _ _ rfl ?_)
  cases n
  exact g5 _ _ _ _ rfl rfl (b3 _ _ _ _ O R S T a2 b (g3 _ rfl))
theorem slices_SortStableFunc_apiEntry_ok {d : List (Int × Int × Int)} {a : Hdr} {out : (List (Int × Int × Int))} (c : slices_SortStableFunc_apiEntry d = some out) (b : St w0 ros (row 49 rTi64i64u64 a.v d :: rs) w) :
  Calls Tryz.prog 114 #[a.v, .func (.func 115) #[] #[]] w (fun e w => e = .returned (.tuple #[]) ∧ St w0 ros (row 49 rTi64i64u64 a.v out :: rs) w) := by
 refine enterQ Tryz.func114 rfl Tryz.ntmps114 rfl fun Q f => wR (Ym a.v e0 (Ym a.v e0 (yY (yLen SL_44 e0 b rO0) (Ym (.func (.func 115) #[] #[]) e0 (bE c fun h g c => yC (yCall FN_134 (a3 e0 e0 e0)) (slices_stableCmpFunc_apiEntry_ok g b) ?_)))))
 rintro _ w ⟨rfl, b⟩
 refine ⟨_, rfl, ?_⟩
 refine wN ?_
 cases c
 exact f _ _ _ (fin0n Tryz.results114 ⟨rfl, b⟩)
theorem matrix_sorted_ok {f : List (Int × Int × Int)} {d : Hdr} {out : (List (Int × Int × Int))} (a : matrix_sorted f = some out) (h : imm rTi64i64u64 d.v f ∈ ros) (b : St w0 ros rs w) :
  Calls Tryz.prog 86 #[d.v] w (fun e w => ∃ (g : Hdr), e = .returned (g.v) ∧ St w0 ros (row 49 rTi64i64u64 g.v out :: rs) w) := by
 refine enterQ Tryz.func86 rfl Tryz.ntmps86 rfl fun Q i => sR fun _ j => Ya hnil.v rfl (wK j (sR fun _ k => Ym d.v e0 (bE a fun p l a => yC (yCall FN_113 (a1 e0)) (slices_Clone_apiEntry_ok l h b) ?_)))
 rintro _ w ⟨c, rfl, b⟩
 refine ⟨_, rfl, ?_⟩
 refine Ya c.v e0 (wK k (sR fun _ m => Ym c.v e0 (bE a fun q n a => yC (yCall FN_114 (a2 e0 rfl)) (slices_SortStableFunc_apiEntry_ok n b) ?_)))
 rintro _ w ⟨rfl, b⟩
 refine ⟨_, rfl, ?_⟩
 refine wK m (sR fun _ o => Ym c.v e0 (Ya c.v e0 (wK o (wp_ret ?_))))
 cases a
 exact i _ _ _ (fin1r Tryz.results86 ⟨rfl, rfl⟩ ⟨_, rfl, b⟩)
theorem matrix_build_ok {i g : Int} {a3 : List (Int × Int × Int)} {N : Hdr} {out : Int × Int × LI × LI × LI} (t : matrix_build i g a3 = some out) (c1 : imm rTi64i64u64 N.v a3 ∈ ros) (b : St w0 ros rs w) :
  Calls Tryz.prog 62 #[iV i, iV g, N.v] w (fun e w => ∃ (a4 a5 a6 : Hdr), e = .returned (.agg #[iV out.1, iV out.2.1, a4.v, a5.v, a6.v]) ∧ St w0 ros (row 3 I1 a4.v out.2.2.1 :: row 3 I1 a5.v out.2.2.2.1 :: row 47 (rI .u64) a6.v out.2.2.2.2 :: rs) w) := by
 refine enterQ Tryz.func62 rfl Tryz.ntmps62 rfl fun Q c2 => sR fun _ c3 => yBb (rAl b ZT_27) fun o w b => wK c3 (sR fun _ c4 => Ym (iV i) e0 (Ym (iV g) e0 (Ym (iV g) e0 (yY (yadd e0 rfl) (bE t fun i2 c5 t => ?_)))))
 refine yH (rMk b SL_22 e0 c5) fun h w b => yY (ybuild (us := [iV i, iV g, h.v, hnil.v, hnil.v]) [(0, iV i), (1, iV g), (2, h.v)] SO_27 (bp3 e0 e0 e0) rfl) (yBb (rAl b ZT_27) fun p w b => yT (r_stbn (vals' := [iV i, iV g, h.v, hnil.v, hnil.v]) (us := [iV i, iV g, h.v, hnil.v, hnil.v]) b ST_27 e0 e0 rfl rfl (one_of rfl) rfl) fun w b => wK c4 (sQ fun _ c6 => sR fun _ c7 => Ym N.v e0 (bE t fun E c8 t => ?_)))
 refine yC (yCall FN_86 (a1 e0)) (matrix_sorted_ok c8 c1 b) ?_
 rintro _ w ⟨F, rfl, b⟩
 refine ⟨_, rfl, ?_⟩
 refine yY (yLen SL_44 e0 b rO0) (Ym (iV 0) rfl (wK c7 (blockQ fun c9 d0 => bE t fun d1 d2 t => ?_)))
 have d3 : ∀ (O z A : LI) (q r : Hdr) (f : FV) w, f 1 = iV g → f 6 = (pB o) → f 7 = (pB p) → St w0 ros (box o 27 [iV 0, iV 0, hnil.v, hnil.v, hnil.v] :: row 3 I1 h.v O :: row 3 I1 q.v z :: row 47 (rI .u64) r.v A :: box p 27 [iV i, iV g, h.v, q.v, r.v] :: rs) w → (O, z, A) = d1 → c9 (.exit 0) (fr 67 f) w := by
  intro O z A q r f w d4 d5 d6 b ho
  subst ho
  refine d0 _ _ _ (c6 _ _ (sQ fun _ d7 => sR fun _ d8 => Ym (iV g) (eh d4) (Ym (iV 0) rfl (wK d8 (blockQ fun d9 e1 => bE t fun e2 e3 t => ?_)))))
  have e4 : ∀ (R : LI) (f : FV) w, f 6 = (pB o) → f 7 = (pB p) → St w0 ros (box o 27 [iV 0, iV 0, hnil.v, hnil.v, hnil.v] :: row 3 I1 h.v R :: row 3 I1 q.v z :: row 47 (rI .u64) r.v A :: box p 27 [iV i, iV g, h.v, q.v, r.v] :: rs) w → R = e2 → d9 (.exit 2) (fr 67 f) w := by
   intro R f w a7 e5 b ho
   subst ho
   refine e1 _ _ _ (d7 _ _ (sR fun _ e6 => yY (lbs_ [iV i, iV g, h.v, q.v, r.v] ST_27 (eh e5) b R4) (yT (r_stbn (vals' := [iV i, iV g, h.v, q.v, r.v]) (us := [iV i, iV g, h.v, q.v, r.v]) b ST_27 (eh a7) e0 rfl rfl (one_of rfl) rfl) fun w b => wK e6 (wp_ret ?_))))
   cases t
   exact c2 _ _ _ (fin1r Tryz.results62 (rcs2 rfl a7 b R0 ST_27 rfl) ⟨_, _, _, rfl, (b.k1t)⟩)
  refine loopQ (fun s a w => ∃ (S : LI) (u : Int) (f : FV), (S, u) = s ∧ a = fr 67 f ∧ f 6 = (pB o) ∧ f 7 = (pB p) ∧ f 48 = iV g ∧ f 49 = iV u ∧ St w0 ros (box o 27 [iV 0, iV 0, hnil.v, hnil.v, hnil.v] :: row 3 I1 h.v S :: row 3 I1 q.v z :: row 47 (rI .u64) r.v A :: box p 27 [iV i, iV g, h.v, q.v, r.v] :: rs) w) e3 ⟨_, _, _, rfl, rfl, d5, d6, rfl, rfl, b⟩ ?_
  rintro _ _ w i3 ⟨S, u, f, rfl, rfl, a8, G, a9, T, b⟩ m e7 i4 e8 e9
  refine sR fun _ f0 => yY (ylss (eh T) (eh a9)) (wK f0 (seqQ fun i5 f1 f2 => ?_))
  refine cIf e0 m (fun f3 m => ?_) fun f3 m => ?_
  ·refine wp_skip (f1 _ _ (sQ fun _ f4 => blockQ fun _ f5 => sR fun _ f6 => Ym (iV u) (eh T) (Ya (iV u) e0 (wK f6 (bE m fun f7 b0 m => bE m fun f8 b1 m => bE m fun i6 b2 m => dR [0, 1, 0, 4, 15, 31, 0, 64, 0, 448, 960, 2047, 4095, 8191] [13] 1 folM ?_)))))
   replace b := b.drew
   refine Dn [0, 1, 2, 3, 4, 5, 6, 7, 8, 9, 10, 11, 12] [] [13] (yR rfl (yFb FL_27_2 (eh G)) (yR rfl (lb_ h.v O_22 e0 b R4) (yR rfl (m_ (iV u) e0) (yR rfl (yadd e0 rfl) (yR rfl (yIa SL_22 e0 e0 b rO1 b0) (yR rfl (yI O_3 e0 b rO1 b0) (yR rfl (yFb FL_27_2 (eh G)) (yR rfl (lb_ h.v O_22 e0 b R4) (yR rfl (m_ (iV u) e0) (yR rfl (yIa SL_22 e0 e0 b rO1 b1) (yR rfl (yI O_3 e0 b rO1 b1) (yR rfl (yadd e0 e0) (yR rfl (yIs SL_22 e0 e0 b rO1 b2) ?_)))))))))))))
   refine Rn QSn ?_
   refine Lc1 rfl ?_
   replace b := b.k11
   refine LT wn (r_sti (cs := [iV (wa .i64 f7 f8)]) b O_3 rfl e0 e0 rfl mkI b2) fun w b => Dz [] [] (Rn QSn (f5 _ _ _ (f4 _ _ (wR (yY (yadd (eh T) rfl) (Ym (iV (wa .i64 u 1)) e0 (wN ?_)))))))
   cases m
   exact e8 _ _ _ rfl ⟨_, _, _, rfl, rfl, a8, G, a9, rfl, (b.k20)⟩
  ·refine wp_exit (f2 _ _ _ rfl ?_)
   cases m
   exact e9 _ _ _ _ rfl rfl (e4 _ _ _ a8 G b (e7 _ rfl))
 replace b := (b.rowNh 3 I1).rowNh 47 (rI .u64)
 refine loopQ (fun s a w => ∃ (H U V : LI) (B : Int) (f : FV) (x j : Hdr), (H, U, V, B) = s ∧ a = fr 67 f ∧ f 1 = iV g ∧ f 6 = (pB o) ∧ f 7 = (pB p) ∧ f 18 = F.v ∧ f 19 = iV (E.length : Int) ∧ f 20 = iV B ∧ St w0 ros (box o 27 [iV 0, iV 0, hnil.v, hnil.v, hnil.v] :: row 3 I1 h.v H :: row 3 I1 x.v U :: row 47 (rI .u64) j.v V :: box p 27 [iV i, iV g, h.v, x.v, j.v] :: row 49 rTi64i64u64 F.v E :: rs) w) d2 ⟨_, _, _, _, _, _, _, rfl, rfl, rfl, rfl, rfl, rfl, rfl, rfl, (b.k21)⟩ ?_
 rintro _ _ w i7 ⟨H, U, V, B, f, x, j, rfl, rfl, I, J, d, K, L, C, b⟩ k f9 i8 g0 g1
 refine sR fun _ g2 => yY (ylss (eh C) (eh L)) (wK g2 (seqQ fun i9 g3 g4 => ?_))
 refine cIf e0 k (fun g5 k => ?_) fun g5 k => ?_
 ·refine wp_skip (g3 _ _ (sQ fun _ g6 => blockQ fun _ g7 => sR fun _ g8 => bE k fun c b3 k => yY (yIa SL_44 (eh K) (eh C) b rO5 b3) (yY (yFn ST_49 e0 b rO5 b3 rfl) (yBb (rAl b ZT_49) fun b4 w b => yT (r_stbn (vals' := [iV c.1, iV c.2.1, .int .u64 c.2.2]) (us := [iV c.1, iV c.2.1, .int .u64 c.2.2]) b ST_49 e0 e0 rfl rfl (one_of rfl) rfl) fun w b => wN ?_))))
  refine g8 _ _ (sQ fun _ g9 => bE k fun h0 W k => bE k fun h1 X k => ?_)
  refine joinN (n := 67) (fun f w => ∃ (Z a0 : Hdr), f 1 = iV g ∧ f 6 = (pB o) ∧ f 7 = (pB p) ∧ f 9 = (pB b4) ∧ f 18 = F.v ∧ f 19 = iV (E.length : Int) ∧ f 20 = iV B ∧ St w0 ros (box o 27 [iV 0, iV 0, hnil.v, hnil.v, hnil.v] :: row 3 I1 h.v H :: row 3 I1 Z.v h0 :: row 47 (rI .u64) a0.v h1 :: box p 27 [iV i, iV g, h.v, Z.v, a0.v] :: box b4 49 [iV c.1, iV c.2.1, .int .u64 c.2.2] :: row 49 rTi64i64u64 F.v E :: rs) w) (fun a2 => ?_) ?_
  ·refine dR [0, 1, 0, 4, 12, 31, 0, 64, 0, 256, 768, 2047, 255, 8191, 16383, 32767] [4, 5, 10, 11, 13, 15] 6 folM ?_
   replace b := b.drew
   refine Dn [0, 1, 2, 3, 6, 7, 8, 9] [] [4, 10] (yR rfl (yFb FL_27_3 (eh d)) (yR rfl (lb_ x.v O_22 e0 b R5) (yR rfl (yFb FL_49_0 e0) (yR rfl (lb_ (iV c.1) O_3 e0 b R0) (yR rfl (yFb FL_27_4 (eh d)) (yR rfl (lb_ j.v O_25 e0 b R5) (yR rfl (yFb FL_49_2 e0) (yR rfl (lb_ (.int .u64 c.2.2) O_47 e0 b R0) (Rn QSn ?_)))))))))
   refine Lc rfl ?_ (Lc1 rfl ?_)
   ·refine LH wn (rLt (n := 1) (l := [c.1]) b SL_22 [iV c.1] (bp1 e0) rfl rfl (mks1 (cs := [iV c.1]) rfl mkI mks0)) fun h2 w b => Dn [] [0, 1, 6, 7, 8, 9] [5, 10] (Rn (yS rfl (yFb FL_27_3 (eh d)) (yS rfl (lb_ x.v O_22 e0 b R6) (yS rfl (yFb FL_27_4 (eh d)) (yS rfl (lb_ j.v O_25 e0 b R6) (yS rfl (yFb FL_49_2 e0) (yS rfl (lb_ (.int .u64 c.2.2) O_47 e0 b R1) QSn)))))) ?_)
    refine Lc rfl ?_ (Lc1 rfl ?_)
    ·replace b := b.k1j
     refine LH wn (rAp b SL_22 e0 e0 rO1 W) fun y w b => Dn [12] [6, 7, 8, 9] [10] (yR rfl (yFb FL_27_3 (eh d)) (Rn (yS rfl (yFb FL_27_4 (eh d)) (yS rfl (lb_ j.v O_25 e0 b R6) (yS rfl (yFb FL_49_2 e0) (yS rfl (lb_ (.int .u64 c.2.2) O_47 e0 b R2) QSn)))) ?_))
     refine Lc1 rfl ?_
     refine LH wn (rLt (n := 1) (l := [c.2.2]) b SL_25 [.int .u64 c.2.2] (bp1 e0) rfl rfl (mks1 (cs := [.int .u64 c.2.2]) rfl mkI mks0)) fun b6 w b => Dn [] [6, 7, 12] [11] (Rn (yS rfl (yFb FL_27_4 (eh d)) (yS rfl (lb_ j.v O_25 e0 b R7) (yS rfl (yFb FL_27_3 (eh d)) QSn))) ?_)
     refine Lc1 rfl ?_
     replace b := b.k1a
     refine LH wn (rAp b SL_25 e0 e0 rO1 X) fun D w b => Dn [] [12] [13] (Rn (yS rfl (yFb FL_27_3 (eh d)) QSn) ?_)
     refine Lc1 rfl ?_
     replace b := b.k22
     refine LT wn (r_stb1 (vals' := [iV i, iV g, h.v, y.v, j.v]) b O_22 e0 e0 rfl rfl rfl rfl) fun w b => Dn [14] [] [15] (yR rfl (yFb FL_27_4 (eh d)) (Rn QSn ?_))
     refine Lc1 rfl ?_
     exact LT wn (r_stb1 (vals' := [iV i, iV g, h.v, y.v, D.v]) b O_25 e0 e0 rfl rfl rfl rfl) fun w b => Dz [] [] (Rn QSn (a2 _ _ ⟨_, _, I, J, d, rfl, K, L, C, (b.k23)⟩))
    ·refine LH wn (rLt (n := 1) (l := [c.2.2]) b SL_25 [.int .u64 c.2.2] (bp1 e0) rfl rfl (mks1 (cs := [.int .u64 c.2.2]) rfl mkI mks0)) fun b6 w b => Dn [] [0, 1, 6, 7] [5] (Rn (yS rfl (yFb FL_27_3 (eh d)) (yS rfl (lb_ x.v O_22 e0 b R7) (yS rfl (yFb FL_27_4 (eh d)) (yS rfl (lb_ j.v O_25 e0 b R7) QSn)))) ?_)
     refine Lc1 rfl ?_
     replace b := b.k1k
     refine LH wn (rAp b SL_22 e0 e0 rO2 W) fun y w b => Dn [12] [6, 7] [11] (yR rfl (yFb FL_27_3 (eh d)) (Rn (yS rfl (yFb FL_27_4 (eh d)) (yS rfl (lb_ j.v O_25 e0 b R7) QSn)) ?_))
     refine Lc1 rfl ?_
     replace b := b.k1a
     refine LH wn (rAp b SL_25 e0 e0 rO2 X) fun D w b => Dn [] [12] [13] (Rn (yS rfl (yFb FL_27_3 (eh d)) QSn) ?_)
     refine Lc1 rfl ?_
     replace b := b.k22
     refine LT wn (r_stb1 (vals' := [iV i, iV g, h.v, y.v, j.v]) b O_22 e0 e0 rfl rfl rfl rfl) fun w b => Dn [14] [] [15] (yR rfl (yFb FL_27_4 (eh d)) (Rn QSn ?_))
     refine Lc1 rfl ?_
     exact LT wn (r_stb1 (vals' := [iV i, iV g, h.v, y.v, D.v]) b O_25 e0 e0 rfl rfl rfl rfl) fun w b => Dz [] [] (Rn QSn (a2 _ _ ⟨_, _, I, J, d, rfl, K, L, C, (b.k24)⟩))
   ·refine LH wn (rLt (n := 1) (l := [c.2.2]) b SL_25 [.int .u64 c.2.2] (bp1 e0) rfl rfl (mks1 (cs := [.int .u64 c.2.2]) rfl mkI mks0)) fun b6 w b => Dn [] [0, 1, 2, 3, 6, 7] [4] (Rn (yS rfl (yFb FL_27_3 (eh d)) (yS rfl (lb_ x.v O_22 e0 b R6) (yS rfl (yFb FL_49_0 e0) (yS rfl (lb_ (iV c.1) O_3 e0 b R1) (yS rfl (yFb FL_27_4 (eh d)) (yS rfl (lb_ j.v O_25 e0 b R6) QSn)))))) ?_)
    refine Lc1 rfl ?_
    refine LH wn (rLt (n := 1) (l := [c.1]) b SL_22 [iV c.1] (bp1 e0) rfl rfl (mks1 (cs := [iV c.1]) rfl mkI mks0)) fun h2 w b => Dn [] [0, 1, 6, 7] [5] (Rn (yS rfl (yFb FL_27_3 (eh d)) (yS rfl (lb_ x.v O_22 e0 b R7) (yS rfl (yFb FL_27_4 (eh d)) (yS rfl (lb_ j.v O_25 e0 b R7) QSn)))) ?_)
    refine Lc1 rfl ?_
    replace b := b.k1k
    refine LH wn (rAp b SL_22 e0 e0 rO1 W) fun y w b => Dn [12] [6, 7] [11] (yR rfl (yFb FL_27_3 (eh d)) (Rn (yS rfl (yFb FL_27_4 (eh d)) (yS rfl (lb_ j.v O_25 e0 b R7) QSn)) ?_))
    refine Lc1 rfl ?_
    replace b := b.k1a
    refine LH wn (rAp b SL_25 e0 e0 rO3 X) fun D w b => Dn [] [12] [13] (Rn (yS rfl (yFb FL_27_3 (eh d)) QSn) ?_)
    refine Lc1 rfl ?_
    replace b := b.k22
    refine LT wn (r_stb1 (vals' := [iV i, iV g, h.v, y.v, j.v]) b O_22 e0 e0 rfl rfl rfl rfl) fun w b => Dn [14] [] [15] (yR rfl (yFb FL_27_4 (eh d)) (Rn QSn ?_))
    refine Lc1 rfl ?_
    exact LT wn (r_stb1 (vals' := [iV i, iV g, h.v, y.v, D.v]) b O_25 e0 e0 rfl rfl rfl rfl) fun w b => Dz [] [] (Rn QSn (a2 _ _ ⟨_, _, I, J, d, rfl, K, L, C, (b.k24)⟩))
  rintro f w ⟨Z, a0, h3, h5, b7, h7, h8, h9, i0, b⟩
  refine g9 _ _ (wR (yY (yFb FL_27_2 (eh b7)) (yY (lb_ h.v O_22 e0 b R4) (yY (yFb FL_49_1 (eh h7)) (yY (lb_ (iV c.2.1) O_3 e0 b R5) (yY (yadd e0 rfl) (bE k fun i1 b8 k => yY (yIa SL_22 e0 e0 b rO1 b8) (yY (yI O_3 e0 b rO1 b8) (yY (yadd e0 rfl) (bE k fun j0 c0 k => yY (yIs SL_22 e0 e0 b rO1 c0) (yT (r_sti (cs := [iV (wa .i64 i1 1)]) (b.k11) O_3 rfl e0 e0 rfl mkI c0) ?_)))))))))))
  refine fun w b => wN (g7 _ _ _ (g6 _ _ (wR (yY (yadd (eh i0) rfl) (Ym (iV (wa .i64 B 1)) e0 (wN ?_))))))
  cases k
  exact g0 _ _ _ rfl ⟨_, _, _, _, _, _, _, rfl, rfl, h3, h5, b7, h8, h9, rfl, (b.k25)⟩
 ·refine wp_exit (g4 _ _ _ rfl ?_)
  cases k
  exact g1 _ _ _ _ rfl rfl (d3 _ _ _ _ _ _ _ I J d (b.k1y) (f9 _ rfl))
theorem matrix_Transpose_ok {j k : Int} {B C D : LI} {l m n : Hdr} {out : Int × Int × LI × LI × LI × Int} (d : matrix_Transpose j k B C D = some out) (E : imm I1 l.v B ∈ ros) (F : imm I1 m.v C ∈ ros) (G : imm (rI .u64) n.v D ∈ ros) (b : St w0 ros rs w) :
  Calls Tryz.prog 36 #[.agg #[iV j, iV k, l.v, m.v, n.v]] w (fun e w => ∃ (H I J : Hdr), e = .returned (.tuple #[.agg #[iV out.1, iV out.2.1, H.v, I.v, J.v], iV out.2.2.2.2.2]) ∧ St w0 ros (row 3 I1 H.v out.2.2.1 :: row 3 I1 I.v out.2.2.2.1 :: row 47 (rI .u64) J.v out.2.2.2.2.1 :: rs) w) := by
 refine enterQ Tryz.func36 rfl Tryz.ntmps36 rfl fun Q K => sR fun _ Z => yBb (r_box (vals := [iV j, iV k, l.v, m.v, n.v]) b e0 rfl) fun q w b => yBb (rAl b ZT_27) fun r w b => Ya (iV 0) rfl (wK Z (sR fun _ a0 => yY (lbs_ [iV j, iV k, l.v, m.v, n.v] ST_27 e0 b R1) (bE d fun t a2 d => ?_)))
 refine yC (yCall FN_51 (a1 e0)) (matrix_Check_ok a2 E F G b) ?_
 rintro _ w ⟨rfl, b⟩
 refine ⟨_, rfl, ?_⟩
 refine Ya (iV t) e0 (wK a0 (seqQ fun d8 a4 a5 => sR fun _ a6 => Ym (iV t) e0 (yY (yneq e0 rfl) (wK a6 ?_))))
 rcases iteS d with ⟨y, d⟩ | ⟨y, d⟩
 ·refine condF e0 (nF (dT y)) (wp_skip (a4 _ _ (sR fun _ a7 => yY (lbs_ [iV j, iV k, l.v, m.v, n.v] ST_27 e0 b R1) (bE d fun a8 a9 d => yC (yCall FN_61 (a1 e0)) (matrix_entries_ok a9 E F G b) ?_))))
  rintro _ w ⟨g, rfl, b⟩
  refine ⟨_, rfl, ?_⟩
  refine Ya g.v e0 (wK a7 (sQ fun _ b0 => sR fun _ b1 => Ym g.v e0 (yY (yLen SL_44 e0 b rO0) (Ym (iV 0) rfl (wK b1 (blockQ fun b2 b3 => bE d fun b4 b5 d => ?_))))))
  have b6 : ∀ (z : List (Int × Int × Int)) (f : FV) w, f 1 = (pB q) → f 2 = (pB r) → f 5 = g.v → St w0 ros (box q 27 [iV j, iV k, l.v, m.v, n.v] :: box r 27 [iV 0, iV 0, hnil.v, hnil.v, hnil.v] :: row 49 rTi64i64u64 g.v z :: rs) w → z = b4 → b2 (.exit 0) (fr 42 f) w := by
   intro z f w L N b7 b ho
   subst ho
   refine b3 _ _ _ (b0 _ _ (sR fun _ b8 => yY (yFb FL_27_1 (eh L)) (yY (lb_ (iV k) O_3 e0 b R0) (yY (yFb FL_27_0 (eh L)) (yY (lb_ (iV j) O_3 e0 b R0) (Ym g.v (eh b7) (bE d fun u c0 d => ?_)))))))
   replace b := (b.k17).fz
   refine yC (yCall FN_62 (a3 e0 e0 e0)) (matrix_build_ok c0 F0 b) ?_
   rintro _ w ⟨O, R, S, rfl, b⟩
   refine ⟨_, rfl, ?_⟩
   refine yT (r_stbn (vals' := [iV u.1, iV u.2.1, O.v, R.v, S.v]) (us := [iV u.1, iV u.2.1, O.v, R.v, S.v]) (b.k1j) ST_27 (eh N) e0 rfl rfl (one_of rfl) rfl) fun w b => Ya (iV 0) rfl (wK b8 (wp_ret ?_))
   cases d
   exact K _ _ _ (fin2r Tryz.results36 (rcs2 rfl N b R0 ST_27 rfl) ⟨rfl, rfl⟩ ⟨_, _, _, rfl, ((b.k1t).facts (allT allI))⟩)
  refine loopQ (fun s a w => ∃ (A : List (Int × Int × Int)) (h : Int) (f : FV), (A, h) = s ∧ a = fr 42 f ∧ f 1 = (pB q) ∧ f 2 = (pB r) ∧ f 5 = g.v ∧ f 16 = g.v ∧ f 17 = iV (a8.length : Int) ∧ f 18 = iV h ∧ St w0 ros (box q 27 [iV j, iV k, l.v, m.v, n.v] :: box r 27 [iV 0, iV 0, hnil.v, hnil.v, hnil.v] :: row 49 rTi64i64u64 g.v A :: rs) w) b5 ⟨_, _, _, rfl, rfl, rfl, rfl, rfl, rfl, rfl, rfl, (b.k26)⟩ ?_
  rintro _ _ w d9 ⟨A, h, f, rfl, rfl, T, U, p, V, W, x, b⟩ c c1 e1 c2 c3
  refine sR fun _ c4 => yY (ylss (eh x) (eh W)) (wK c4 (seqQ fun e2 c5 c6 => ?_))
  refine cIf e0 c (fun c7 c => ?_) fun c7 c => ?_
  ·refine wp_skip (c5 _ _ (sQ fun _ c8 => blockQ fun _ c9 => sR fun _ d0 => Ym (iV h) (eh x) (bE c fun i X c => yY (yIa SL_44 (eh V) (eh x) b rO2 X) (yY (yFn ST_49 e0 b rO2 X rfl) (yBb (rAl b ZT_49) fun e3 w b => Ya (iV h) e0 (yT (r_stbn (vals' := [iV i.1, iV i.2.1, .int .u64 i.2.2]) (us := [iV i.1, iV i.2.1, .int .u64 i.2.2]) b ST_49 e0 e0 rfl rfl (one_of rfl) rfl) ?_))))))
   refine fun w b => wK d0 (bE c fun e4 d1 c => bE c fun e5 d2 c => bE c fun e6 d3 c => bE c fun e7 d4 c => bE c fun e8 d5 c => bE c fun e9 d6 c => dR [0, 0, 0, 0, 0, 16, 0, 64, 51, 307, 819, 2047, 4095, 8191] [10, 13] 2 folM ?_)
   replace b := b.drew
   refine Dn [0, 1, 2, 3, 4, 5, 6, 7, 8, 9] [] [10] (yR rfl (m_ g.v (eh p)) (yR rfl (m_ (iV h) e0) (yR rfl (m_ g.v (eh p)) (yR rfl (m_ (iV h) e0) (yR rfl (yFb FL_49_1 e0) (yR rfl (lb_ (iV i.2.1) O_3 e0 b R0) (yR rfl (yFb FL_49_0 e0) (yR rfl (lb_ (iV i.1) O_3 e0 b R0) (yR rfl (yIa SL_44 e0 e0 b rO3 d1) (yR rfl (yFe FL_49_0 e0) (Rn QSn ?_)))))))))))
   refine Lc1 rfl ?_
   replace b := b.k14
   refine LT wn (r_stf (o := 0) b O_3 e0 e0 rfl rfl rfl rfl d2 d3) fun w b => Dn [11, 12] [2, 3, 6, 7] [13] (yR rfl (yIa SL_44 e0 e0 b rO0 d4) (yR rfl (yFe FL_49_1 e0) (Rn (yS rfl (m_ g.v (eh p)) (yS rfl (m_ (iV h) e0) (yS rfl (yFb FL_49_0 e0) (yS rfl (lb_ (iV i.1) O_3 e0 b R1) QSn)))) ?_)))
   refine Lc1 rfl ?_
   refine LT wn (r_stf (o := 1) b O_3 e0 e0 rfl rfl rfl rfl d5 d6) fun w b => Dz [] [] (Rn QSn (c9 _ _ _ (c8 _ _ (wR (yY (yadd (eh x) rfl) (Ym (iV (wa .i64 h 1)) e0 (wN ?_)))))))
   cases c
   exact c2 _ _ _ rfl ⟨_, _, _, rfl, rfl, T, U, p, V, W, rfl, (b.k27)⟩
  ·refine wp_exit (c6 _ _ _ rfl ?_)
   cases c
   exact c3 _ _ _ _ rfl rfl (b6 _ _ _ T U p b (c1 _ rfl))
 ·refine condT e0 (nT (dF y)) (sR fun _ d7 => yY (ybuild (us := [iV 0, iV 0, hnil.v, hnil.v, hnil.v]) [] SO_27 bp0 rfl) (Ym (iV t) e0 (yT (r_stbn (vals' := [iV 0, iV 0, hnil.v, hnil.v, hnil.v]) (us := [iV 0, iV 0, hnil.v, hnil.v, hnil.v]) b ST_27 e0 e0 rfl rfl (one_of rfl) rfl) fun w b => Ya (iV t) e0 (wK d7 (wp_ret (a5 _ _ _ rfl ?_))))))
  cases d
  replace b := ((b.rowNh 3 I1).rowNh 3 I1).rowNh 47 (rI .u64)
  exact K _ _ _ (fin2r Tryz.results36 (rcs2 rfl rfl b R3 ST_27 rfl) ⟨rfl, rfl⟩ ⟨_, _, _, rfl, (b.k1s)⟩)
theorem matching_Reachable_ok {D y : Int} {d6 d7 d8 : LI} {L N O : Hdr} {out : (List Bool) × (List Bool)} (p : matching_Reachable D y d6 d7 d8 = some out) (g8 : imm I1 L.v d6 ∈ ros) (g9 : imm I1 N.v d7 ∈ ros) (h0 : imm (rI .u64) O.v d8 ∈ ros) (b : St w0 ros rs w) :
  Calls Tryz.prog 37 #[.agg #[iV D, iV y, L.v, N.v, O.v]] w (fun e w => ∃ (d9 e1 : Hdr), e = .returned (.tuple #[d9.v, e1.v]) ∧ St w0 ros (row 4 rB d9.v out.1 :: row 4 rB e1.v out.2 :: rs) w) := by
 refine enterQ Tryz.func37 rfl Tryz.ntmps37 rfl fun Q h1 => sR fun _ h2 => yBb (r_box (vals := [iV D, iV y, L.v, N.v, O.v]) b e0 rfl) fun s6 w b => Ya hnil.v rfl (Ya hnil.v rfl (wK h2 (sR fun _ k2 => yY (lbs_ [iV D, iV y, L.v, N.v, O.v] ST_27 e0 b R0) (bE p fun c h3 p => yC (yCall FN_52 (a1 e0)) (matching_matched_ok h3 g8 g9 h0 b) ?_))))
 rintro _ w ⟨h, k, i, m, o, rfl, b⟩
 refine ⟨_, rfl, ?_⟩
 refine Ya (pB h) e0 (wK k2 (sQ fun _ h5 => bE p fun R e2 p => bE p fun h7 a0 p => ?_))
 refine joinN (n := 89) (fun f w => ∃ (g d : Hdr), f 2 = g.v ∧ f 3 = d.v ∧ f 4 = (pB h) ∧ St w0 ros (row 4 rB g.v R :: row 4 rB d.v h7 :: row 22 S1 k.v c.1 :: row 3 I1 i.v c.2.1 :: row 3 I1 m.v c.2.2.1 :: row 4 rB o.v c.2.2.2 :: box h 87 [k.v, i.v, m.v, o.v] :: rs) w) (fun a2 => ?_) ?_
 ·refine dR [0, 1, 3, 0, 8, 24, 7, 127] [2, 5, 6, 7] 4 folM ?_
  replace b := b.drew
  refine Dn [0, 1, 3, 4] [] [2, 5] (yR rfl (yFb FL_27_0 e0) (yR rfl (lb_ (iV D) O_3 e0 b R5) (yR rfl (yFb FL_27_1 e0) (yR rfl (lb_ (iV y) O_3 e0 b R5) (Rn QSn ?_)))))
  refine Lc rfl ?_ (Lc1 rfl ?_)
  ·refine LH wn (rMk b SL_56 e0 e2) fun S w b => Dn [] [3, 4] [5, 6] (Rn (yS rfl (yFb FL_27_1 e0) (yS rfl (lb_ (iV y) O_3 e0 b R6) QSn)) ?_)
   refine Lc rfl ?_ (Lc1 rfl ?_)
   ·refine LH wn (rMk b SL_56 e0 a0) fun J w b => Dn [] [] [6] (Rn QSn ?_)
    refine Lc1 rfl ?_
    refine Ly wn (a_ S.v e0) (Dn [] [] [7] (Rn QSn ?_))
    refine Lc1 rfl ?_
    exact Ly wn (a_ J.v e0) (Dz [] [] (Rn QSn (a2 _ _ ⟨_, _, rfl, rfl, rfl, (b.k28)⟩)))
   ·refine Ly wn (a_ S.v e0) (Dn [] [3, 4] [5] (Rn (yS rfl (yFb FL_27_1 e0) (yS rfl (lb_ (iV y) O_3 e0 b R6) QSn)) ?_))
    refine Lc1 rfl ?_
    refine LH wn (rMk b SL_56 e0 a0) fun J w b => Dn [] [] [7] (Rn QSn ?_)
    refine Lc1 rfl ?_
    exact Ly wn (a_ J.v e0) (Dz [] [] (Rn QSn (a2 _ _ ⟨_, _, rfl, rfl, rfl, (b.k28)⟩)))
  ·refine LH wn (rMk b SL_56 e0 a0) fun J w b => Dn [] [0, 1] [2] (Rn (yS rfl (yFb FL_27_0 e0) (yS rfl (lb_ (iV D) O_3 e0 b R6) QSn)) ?_)
   refine Lc1 rfl ?_
   refine LH wn (rMk b SL_56 e0 e2) fun S w b => Dn [] [] [6] (Rn QSn ?_)
   refine Lc1 rfl ?_
   refine Ly wn (a_ S.v e0) (Dn [] [] [7] (Rn QSn ?_))
   refine Lc1 rfl ?_
   exact Ly wn (a_ J.v e0) (Dz [] [] (Rn QSn (a2 _ _ ⟨_, _, rfl, rfl, rfl, (b.k29)⟩)))
 rintro f w ⟨g, d, E, F, z, b⟩
 refine h5 _ _ (sR fun _ h9 => Ya hnil.v rfl (wK h9 (sQ fun _ i0 => sR fun _ i1 => Ym (pB h) (eh z) (yY (yn e0) (yY (yFb FL_87_1 e0) (yY (lb_ i.v O_22 e0 b R6) (yY (yLen SL_22 e0 b rO3) ?_)))))))
 refine Ym (iV 0) rfl (wK i1 (blockQ fun i2 i3 => bE p fun i4 i5 p => ?_))
 have i6 : ∀ (a3 : List Bool) (a4 : LI) (a5 : Hdr) (f : FV) w, f 2 = g.v → f 3 = d.v → f 4 = (pB h) → f 5 = a5.v → St w0 ros (row 4 rB g.v R :: row 4 rB d.v a3 :: row 22 S1 k.v c.1 :: row 3 I1 i.v c.2.1 :: row 3 I1 m.v c.2.2.1 :: row 4 rB o.v c.2.2.2 :: box h 87 [k.v, i.v, m.v, o.v] :: row 3 I1 a5.v a4 :: rs) w → (a3, a4) = i4 → i2 (.exit 0) (fr 89 f) w := by
  intro a3 a4 a5 f w i7 i8 i9 j0 b ho
  subst ho
  refine i3 _ _ _ (i0 _ _ (sQ fun _ j2 => blockQ fun j3 j4 => bE p fun j5 j6 p => ?_))
  have j7 : ∀ (a6 a7 : List Bool) (f : FV) w, f 2 = g.v → f 3 = d.v → St w0 ros (row 4 rB g.v a6 :: row 4 rB d.v a7 :: rs) w → (a6, a7) = j5 → j3 (.exit 2) (fr 89 f) w := by
   intro a6 a7 f w j8 j9 b ho
   subst ho
   refine j4 _ _ _ (j2 _ _ (sR fun _ k0 => Ym g.v (eh j8) (Ym d.v (eh j9) (Ya g.v e0 (Ya d.v e0 (wK k0 (wp_ret ?_)))))))
   cases p
   exact h1 _ _ _ (fin2r Tryz.results37 ⟨rfl, rfl⟩ ⟨rfl, rfl⟩ ⟨_, _, rfl, b⟩)
  replace b := (b.k22).toQ
  refine loopQ (fun s a w => ∃ (a8 a9 : List Bool) (T : LI) (f : FV) (A : Hdr), (a8, a9, T) = s ∧ a = fr 89 f ∧ f 2 = g.v ∧ f 3 = d.v ∧ f 4 = (pB h) ∧ f 5 = A.v ∧ St w0 ros (row 4 rB g.v a8 :: row 4 rB d.v a9 :: row 22 S1 k.v c.1 :: row 3 I1 i.v c.2.1 :: row 3 I1 m.v c.2.2.1 :: row 4 rB o.v c.2.2.2 :: box h 87 [k.v, i.v, m.v, o.v] :: rowS 3 I1 A.v T :: rs) w) j6 ⟨_, _, _, _, _, rfl, rfl, i7, i8, i9, j0, (b.k2a)⟩ ?_
  rintro _ _ w s7 ⟨a8, a9, T, f, A, rfl, rfl, e3, e4, e5, b0, b⟩ r k7 s8 k8 k9
  refine seqQ fun s9 l0 l1 => sR fun _ l2 => Ym A.v (eh b0) (yY (yLen SL_22 e0 b (rdQ R7)) (yY (ygtr e0 rfl) (wK l2 ?_)))
  refine cIf e0 r (fun l3 r => ?_) fun l3 r => ?_
  ·refine wp_skip (l0 _ _ (blockQ fun _ l4 => sR fun _ l5 => Ym A.v (eh b0) (bE r fun e6 e7 r => yY (yIa SL_22 e0 rfl b (rdQ R7) e7) (yY (yI O_3 e0 b (rdQ R7) e7) (Ya (iV e6) e0 (wK l5 (sR fun _ l6 => ?_)))))))
   refine Ym A.v (eh b0) (bE r fun t0 e8 r => ?_)
   replace b := b.k22
   refine yY (ySl (k2 := .i64) SL_22 e0 b (rdQ R0) (.inl (congrArg some rfl)) (.inr ⟨rfl, rfl⟩) e8) ?_
   replace b := b.qcut e8 rfl
   refine Ya ((subH A 1 1 (T.length : Int)).v) e0 (wK l6 (sR fun _ l7 => Ym (pB h) (eh e5) (yY (yn e0) (yY (yFb FL_87_0 e0) (yY (lb_ k.v O_78 e0 b R7) (Ym (iV e6) e0 (bE r fun G e9 r => yY (yIa SL_78 e0 e0 b rO3 e9) ?_)))))))
   obtain ⟨H, l8, b⟩ := rLs b rO3 e9
   refine yY (yCe O_22 e0 l8 rfl) (yY (yLen SL_22 e0 b (rdI F0)) (Ym (iV 0) rfl (wK l7 (blockQ fun l9 m0 => bE r fun m1 m2 r => ?_))))
   have m3 : ∀ (b1 b2 : List Bool) (b3 : LI) (b4 : Hdr) (f : FV) w, f 2 = g.v → f 3 = d.v → f 4 = (pB h) → f 5 = b4.v → St w0 ros (row 4 rB g.v b1 :: row 4 rB d.v b2 :: row 22 S1 k.v c.1 :: row 3 I1 i.v c.2.1 :: row 3 I1 m.v c.2.2.1 :: row 4 rB o.v c.2.2.2 :: box h 87 [k.v, i.v, m.v, o.v] :: rowS 3 I1 b4.v b3 :: rs) w → (b1, b2, b3) = m1 → l9 (.exit 4) (fr 89 f) w := by
    intro b1 b2 b3 b4 f w m4 m5 m6 m7 b ho
    subst ho
    refine m0 _ _ _ (l4 _ _ _ ?_)
    cases r
    exact k8 _ _ _ rfl ⟨_, _, _, _, _, rfl, rfl, m4, m5, m6, m7, b⟩
   refine loopQ (fun s a w => ∃ (b5 U : List Bool) (V : LI) (B : Int) (f : FV) (I : Hdr), (b5, U, V, B) = s ∧ a = fr 89 f ∧ f 2 = g.v ∧ f 3 = d.v ∧ f 4 = (pB h) ∧ f 5 = I.v ∧ f 54 = H.v ∧ f 55 = iV (G.length : Int) ∧ f 56 = iV B ∧ St w0 (imm I1 H.v G :: ros) (row 4 rB g.v b5 :: row 4 rB d.v U :: row 22 S1 k.v c.1 :: row 3 I1 i.v c.2.1 :: row 3 I1 m.v c.2.2.1 :: row 4 rB o.v c.2.2.2 :: box h 87 [k.v, i.v, m.v, o.v] :: rowS 3 I1 I.v V :: rs) w) m2 ⟨_, _, _, _, _, _, rfl, rfl, e3, e4, e5, rfl, rfl, rfl, rfl, (b.k2a)⟩ ?_
   rintro _ _ w m8 ⟨b5, U, V, B, f, I, rfl, rfl, E, F, z, b6, b7, b8, W, b⟩ j m9 t1 n0 n1
   refine sR fun _ n2 => yY (ylss (eh W) (eh b8)) (wK n2 (seqQ fun t2 n3 n5 => ?_))
   refine cIf e0 j (fun n6 j => ?_) fun n6 j => ?_
   ·refine wp_skip (n3 _ _ (sQ fun _ n7 => blockQ fun n8 n9 => sR fun _ o0 => bE j fun c0 f0 j => yY (yIa SL_22 (eh b7) (eh W) b (rdI F0) f0) (yY (yI O_3 e0 b (rdI F0) f0) (Ya (iV c0) e0 (wK o0 (sR fun _ o1 => ?_))))))
    refine Ym g.v (eh E) (Ym (iV c0) e0 (bE j fun c1 f1 j => yY (yIs SL_56 e0 e0 b rO0 f1) (yT (r_sti (cs := [.bool true]) b O_4 rfl e0 rfl rfl mkB f1) fun w b => wK o1 (sR fun _ o2 => Ym (pB h) (eh z) (yY (yn e0) (yY (yFb FL_87_2 e0) (yY (lb_ m.v O_22 e0 b R6) ?_)))))))
    refine Ym (iV c0) e0 (bE j fun x f2 j => yY (yIa SL_22 e0 e0 b rO4 f2) (yY (yI O_3 e0 b rO4 f2) (Ya (iV x) e0 (wK o2 (sR fun _ o3 => Ym (iV x) e0 (yY (yneq e0 rfl) (Ym (.bool (!(decide (x = (-1))))) e0 (bE j fun o5 C j => ?_))))))))
    refine joinW 6 (fun f w => f 2 = g.v ∧ f 3 = d.v ∧ f 4 = (pB h) ∧ f 5 = I.v ∧ f 11 = iV x ∧ f 54 = H.v ∧ f 55 = iV (G.length : Int) ∧ f 56 = iV B ∧ f 78 = .bool o5 ∧ St w0 (imm I1 H.v G :: ros) (row 4 rB g.v c1 :: row 4 rB d.v U :: row 22 S1 k.v c.1 :: row 3 I1 i.v c.2.1 :: row 3 I1 m.v c.2.2.1 :: row 4 rB o.v c.2.2.2 :: box h 87 [k.v, i.v, m.v, o.v] :: rowS 3 I1 I.v V :: rs) w) (fun f3 => ?_) ?_
    ·rcases iteS C with ⟨t, C⟩ | ⟨t, C⟩
     ·refine gN (nF (dT t)) (gN (nF (dT t)) (gN (nF (dT t)) (gN (nF (dT t)) (gN (nF (dT t)) (yY (pf_ (.bool false) e0 (nF (dT t)) rfl) ?_)))))
      cases C
      exact f3 _ _ ⟨E, F, z, b6, rfl, b7, b8, W, rfl, b⟩
     ·refine yG (nT (dF t)) (m_ d.v (eh F)) (yG (nT (dF t)) (m_ (iV x) e0) (bE C fun o6 f4 C => yG (nT (dF t)) (yIa SL_56 e0 e0 b rO1 f4) (yG (nT (dF t)) (yB O_4 e0 b rO1 f4) (yG (nT (dF t)) (ynot e0) (yY (pt_ (.bool (!o6)) e0 (nT (dF t)) e0) ?_)))))
      cases C
      exact f3 _ _ ⟨E, F, z, b6, rfl, b7, b8, W, rfl, b⟩
    rintro f w ⟨f5, c2, f6, f7, f8, f9, g0, g1, o7, b⟩
    refine wK o3 ?_
    have g2 : ∀ (c3 : List Bool) (c4 : LI) (c5 : Hdr) (f : FV) w, f 2 = g.v → f 3 = d.v → f 4 = (pB h) → f 5 = c5.v → f 54 = H.v → f 55 = iV (G.length : Int) → f 56 = iV B → St w0 (imm I1 H.v G :: ros) (row 4 rB g.v c1 :: row 4 rB d.v c3 :: row 22 S1 k.v c.1 :: row 3 I1 i.v c.2.1 :: row 3 I1 m.v c.2.2.1 :: row 4 rB o.v c.2.2.2 :: box h 87 [k.v, i.v, m.v, o.v] :: rowS 3 I1 c5.v c4 :: rs) w → matching_Reachable_j26 c1 B c3 c4 = some m8 → n8 .normal (fr 89 f) w := by
     intro c3 c4 c5 f w o8 o9 p0 p1 p2 p3 p4 b p
     refine n9 _ _ _ (n7 _ _ (wR (yY (yadd (eh p4) rfl) (Ym (iV (wa .i64 B 1)) e0 (wN ?_)))))
     cases p
     exact n0 _ _ _ rfl ⟨_, _, _, _, _, _, rfl, rfl, o8, o9, p0, p1, p2, p3, rfl, b⟩
    refine cB (eh o7) j (fun p5 j => ?_) fun p5 j => ?_
    ·refine sR fun _ p6 => Ym d.v (eh c2) (Ym (iV x) (eh f8) (bE j fun t3 g3 j => yY (yIs SL_56 e0 e0 b rO1 g3) (yT (r_sti (cs := [.bool true]) (b.k11) O_4 rfl e0 rfl rfl mkB g3) fun w b => wK p6 (wR (Ym I.v (eh f7) (Ym (iV x) (eh f8) (yH (rLt (n := 1) (l := [x]) b SL_22 [iV x] (bp1 e0) rfl rfl (mks1 (cs := [iV x]) rfl mkI mks0)) ?_)))))))
     exact fun t4 w b => bE j fun t5 p7 j => yH (rQAp (b.k2b) SL_22 e0 e0 rO1 (List.cons_ne_nil _ _) p7) fun p8 w b => Ya p8.v e0 (wN (g2 _ _ _ _ _ f5 c2 f6 rfl f9 g0 g1 (b.k2c) j))
    ·exact wp_skip (g2 _ _ _ _ _ f5 c2 f6 f7 f9 g0 g1 b j)
   ·refine wp_exit (n5 _ _ _ rfl ?_)
    cases j
    exact n1 _ _ _ _ rfl rfl (m3 _ _ _ _ _ _ E F z b6 (b.facts (allT allI)) (m9 _ rfl))
  ·refine wp_exit (l1 _ _ _ rfl ?_)
   cases r
   exact k9 _ _ _ _ rfl rfl (j7 _ _ _ _ e3 e4 (b.k2d) (k7 _ rfl))
 replace b := b.rowNh 3 I1
 refine loopQ (fun s a w => ∃ (c6 : List Bool) (c7 : LI) (u : Int) (f : FV) (X : Hdr), (c6, c7, u) = s ∧ a = fr 89 f ∧ f 2 = g.v ∧ f 3 = d.v ∧ f 4 = (pB h) ∧ f 5 = X.v ∧ f 23 = i.v ∧ f 24 = iV (c.2.1.length : Int) ∧ f 25 = iV u ∧ St w0 ros (row 4 rB g.v R :: row 4 rB d.v c6 :: row 22 S1 k.v c.1 :: row 3 I1 i.v c.2.1 :: row 3 I1 m.v c.2.2.1 :: row 4 rB o.v c.2.2.2 :: box h 87 [k.v, i.v, m.v, o.v] :: row 3 I1 X.v c7 :: rs) w) i5 ⟨_, _, _, _, _, rfl, rfl, E, F, z, rfl, rfl, rfl, rfl, (b.k2a)⟩ ?_
 rintro _ _ w p9 ⟨c6, c7, u, f, X, rfl, rfl, c8, Z, c9, d0, d1, d2, K, b⟩ q q0 t6 q4 q5
 refine sR fun _ q6 => yY (ylss (eh K) (eh d2)) (wK q6 (seqQ fun t7 q7 q8 => ?_))
 refine cIf e0 q (fun q9 q => ?_) fun q9 q => ?_
 ·refine wp_skip (q7 _ _ (sQ fun _ r0 => blockQ fun r1 r2 => sR fun _ r3 => Ym (iV u) (eh K) (bE q fun g4 g5 q => yY (yIa SL_22 (eh d1) (eh K) b rO3 g5) (yY (yI O_3 e0 b rO3 g5) (Ya (iV u) e0 (Ya (iV g4) e0 (wK r3 ?_)))))))
  refine sR fun _ r4 => Ym (iV g4) e0 (yY (yeql e0 rfl) (wK r4 ?_))
  have g6 : ∀ (d3 : List Bool) (d4 : LI) (d5 : Hdr) (f : FV) w, f 2 = g.v → f 3 = d.v → f 4 = (pB h) → f 5 = d5.v → f 23 = i.v → f 24 = iV (c.2.1.length : Int) → f 25 = iV u → St w0 ros (row 4 rB g.v R :: row 4 rB d.v d3 :: row 22 S1 k.v c.1 :: row 3 I1 i.v c.2.1 :: row 3 I1 m.v c.2.2.1 :: row 4 rB o.v c.2.2.2 :: box h 87 [k.v, i.v, m.v, o.v] :: row 3 I1 d5.v d4 :: rs) w → matching_Reachable_j27 u d3 d4 = some p9 → r1 .normal (fr 89 f) w := by
   intro d3 d4 d5 f w r5 r6 r7 r8 r9 s0 s1 b p
   refine r2 _ _ _ (r0 _ _ (wR (yY (yadd (eh s1) rfl) (Ym (iV (wa .i64 u 1)) e0 (wN ?_)))))
   cases p
   exact q4 _ _ _ rfl ⟨_, _, _, _, _, rfl, rfl, r5, r6, r7, r8, r9, s0, rfl, b⟩
  refine cIf e0 q (fun s2 q => ?_) fun s2 q => ?_
  ·refine sR fun _ s3 => Ym d.v (eh Z) (Ym (iV u) e0 (bE q fun t8 g7 q => yY (yIs SL_56 e0 e0 b rO1 g7) (yT (r_sti (cs := [.bool true]) (b.k11) O_4 rfl e0 rfl rfl mkB g7) fun w b => wK s3 (wR (Ym X.v (eh d0) (Ym (iV u) e0 (yH (rLt (n := 1) (l := [u]) b SL_22 [iV u] (bp1 e0) rfl rfl (mks1 (cs := [iV u]) rfl mkI mks0)) ?_)))))))
   exact fun t9 w b => bE q fun u0 s4 q => yH (rAp (b.k2b) SL_22 e0 e0 rO1 s4) fun s5 w b => Ya s5.v e0 (wN (g6 _ _ _ _ _ c8 Z c9 rfl d1 d2 K (b.k2c) q))
  ·exact wp_skip (g6 _ _ _ _ _ c8 Z c9 d0 d1 d2 K b q)
 ·refine wp_exit (q8 _ _ _ rfl ?_)
  cases q
  exact q5 _ _ _ _ rfl rfl (i6 _ _ _ _ _ c8 Z c9 d0 b (q0 _ rfl))
theorem matching_List_ok {m : List Bool} {g : Bool} {h : Hdr} {out : LI} (i : matching_List m g = some out) (p : imm rB h.v m ∈ ros) (b : St w0 ros rs w) :
  Calls Tryz.prog 38 #[h.v, .bool g] w (fun e w => ∃ (B : Hdr), e = .returned (B.v) ∧ St w0 ros (row 3 I1 B.v out :: rs) w) := by
 refine enterQ Tryz.func38 rfl Tryz.ntmps38 rfl fun Q F => sR fun _ G => Ya hnil.v rfl (wK G (sR fun _ H => Ya hnil.v rfl (wK H (sQ fun _ I => sR fun _ J => ?_))))
 refine Ym h.v e0 (yY (yLen SL_56 e0 b (rdI p)) (Ym (iV 0) rfl (wK J (blockQ fun K L => bE i fun N O i => ?_))))
 have R : ∀ (q : LI) (j : Hdr) (f : FV) w, f 5 = j.v → St w0 ros (row 3 I1 j.v q :: rs) w → q = N → K (.exit 0) (fr 24 f) w := by
  intro q j f w S b ho
  subst ho
  refine L _ _ _ (I _ _ (sR fun _ T => Ym j.v (eh S) (Ya j.v e0 (wK T (wp_ret ?_)))))
  cases i
  exact F _ _ _ (fin1r Tryz.results38 ⟨rfl, rfl⟩ ⟨_, rfl, b⟩)
 replace b := b.rowNh 3 I1
 refine loopQ (fun s a w => ∃ (r : LI) (d : Int) (f : FV) (o : Hdr), (r, d) = s ∧ a = fr 24 f ∧ f 1 = .bool g ∧ f 5 = o.v ∧ f 8 = h.v ∧ f 9 = iV (m.length : Int) ∧ f 10 = iV d ∧ St w0 ros (row 3 I1 o.v r :: rs) w) O ⟨_, _, _, _, rfl, rfl, rfl, rfl, rfl, rfl, rfl, b⟩ ?_
 rintro _ _ w U ⟨r, d, f, o, rfl, rfl, t, u, x, y, k, b⟩ c V b6 W X
 refine sR fun _ Z => yY (ylss (eh k) (eh y)) (wK Z (seqQ fun b7 a0 a1 => ?_))
 refine cIf e0 c (fun a2 c => ?_) fun a2 c => ?_
 ·refine wp_skip (a0 _ _ (sQ fun _ a3 => blockQ fun a4 a5 => sR fun _ a6 => Ym (iV d) (eh k) (bE c fun C D c => yY (yIa SL_56 (eh x) (eh k) b (rdI p) D) (yY (yB O_4 e0 b (rdI p) D) (Ya (iV d) e0 (Ya (.bool C) e0 (wK a6 ?_)))))))
  refine sR fun _ a7 => Ym (.bool C) e0 (Ym (.bool g) (eh t) (yY (yeqb (by kernel_rfl) e0 e0) (wK a7 ?_)))
  have E : ∀ (z : LI) (A : Hdr) (f : FV) w, f 1 = .bool g → f 5 = A.v → f 8 = h.v → f 9 = iV (m.length : Int) → f 10 = iV d → St w0 ros (row 3 I1 A.v z :: rs) w → matching_List_j4 d z = some U → a4 .normal (fr 24 f) w := by
   intro z A f w a8 a9 b0 b1 b2 b i
   refine a5 _ _ _ (a3 _ _ (wR (yY (yadd (eh b2) rfl) (Ym (iV (wa .i64 d 1)) e0 (wN ?_)))))
   cases i
   exact W _ _ _ rfl ⟨_, _, _, _, rfl, rfl, a8, a9, b0, b1, rfl, b⟩
  refine cB e0 c (fun b3 c => ?_) fun b3 c => ?_
  ·exact wR (Ym o.v (eh u) (Ym (iV d) e0 (yH (rLt (n := 1) (l := [d]) b SL_22 [iV d] (bp1 e0) rfl rfl (mks1 (cs := [iV d]) rfl mkI mks0)) fun b8 w b => bE c fun b9 b4 c => yH (rAp (b.k11) SL_22 e0 e0 rO1 b4) fun b5 w b => Ya b5.v e0 (wN (E _ _ _ _ t rfl x y k (b.k1f) c)))))
  ·exact wp_skip (E _ _ _ _ t u x y k b c)
 ·refine wp_exit (a1 _ _ _ rfl ?_)
  cases c
  exact X _ _ _ _ rfl rfl (R _ _ _ _ u b (V _ rfl))
theorem blocks_rest_ok {m D : List Bool} {h j : Hdr} {out : LI} (o : blocks_rest m D = some out) (t : imm rB h.v m ∈ ros) (E : imm rB j.v D ∈ ros) (b : St w0 ros rs w) :
  Calls Tryz.prog 39 #[h.v, j.v] w (fun e w => ∃ (F : Hdr), e = .returned (F.v) ∧ St w0 ros (row 3 I1 F.v out :: rs) w) := by
 refine enterQ Tryz.func39 rfl Tryz.ntmps39 rfl fun Q S => sR fun _ T => Ya hnil.v rfl (wK T (sR fun _ U => Ya hnil.v rfl (wK U (sQ fun _ V => sR fun _ W => ?_))))
 refine Ym h.v e0 (yY (yLen SL_56 e0 b (rdI t)) (Ym (iV 0) rfl (wK W (blockQ fun X Z => bE o fun a0 a1 o => ?_))))
 have a2 : ∀ (u : LI) (p : Hdr) (f : FV) w, f 5 = p.v → St w0 ros (row 3 I1 p.v u :: rs) w → u = a0 → X (.exit 0) (fr 30 f) w := by
  intro u p f w a3 b ho
  subst ho
  refine Z _ _ _ (V _ _ (sR fun _ a4 => Ym p.v (eh a3) (Ya p.v e0 (wK a4 (wp_ret ?_)))))
  cases o
  exact S _ _ _ (fin1r Tryz.results39 ⟨rfl, rfl⟩ ⟨_, rfl, b⟩)
 replace b := b.rowNh 3 I1
 refine loopQ (fun s a w => ∃ (q : LI) (c : Int) (f : FV) (k : Hdr), (q, c) = s ∧ a = fr 30 f ∧ f 0 = h.v ∧ f 1 = j.v ∧ f 5 = k.v ∧ f 8 = iV (m.length : Int) ∧ f 9 = iV c ∧ St w0 ros (row 3 I1 k.v q :: rs) w) a1 ⟨_, _, _, _, rfl, rfl, rfl, rfl, rfl, rfl, rfl, b⟩ ?_
 rintro _ _ w a5 ⟨q, c, f, k, rfl, rfl, x, y, z, A, r, b⟩ d a6 d1 a7 a8
 refine sR fun _ a9 => yY (ylss (eh r) (eh A)) (wK a9 (seqQ fun d2 b0 b1 => ?_))
 refine cIf e0 d (fun b2 d => ?_) fun b2 d => ?_
 ·refine wp_skip (b0 _ _ (sQ fun _ b3 => blockQ fun b4 b5 => sR fun _ b6 => Ym (iV c) (eh r) (Ya (iV c) e0 (wK b6 (sR fun _ b7 => Ym h.v (eh x) (Ym (iV c) e0 ?_))))))
  refine bE d fun b8 G d => yY (yIa SL_56 e0 e0 b (rdI t) G) (yY (yB O_4 e0 b (rdI t) G) (yY (ynot e0) (Ym (.bool (!b8)) e0 (bE d fun b9 i d => ?_))))
  refine joinW 6 (fun f w => f 0 = h.v ∧ f 1 = j.v ∧ f 5 = k.v ∧ f 6 = iV c ∧ f 8 = iV (m.length : Int) ∧ f 9 = iV c ∧ f 23 = .bool b9 ∧ St w0 ros (row 3 I1 k.v q :: rs) w) (fun H => ?_) ?_
  ·rcases iteS i with ⟨g, i⟩ | ⟨g, i⟩
   ·refine gN (nF g) (gN (nF g) (gN (nF g) (gN (nF g) (gN (nF g) (yY (pf_ (.bool false) e0 (nF g) rfl) ?_)))))
    cases i
    exact H _ _ ⟨x, y, z, rfl, A, r, rfl, b⟩
   ·refine yG (nT (bfalse g)) (m_ j.v (eh y)) (yG (nT (bfalse g)) (m_ (iV c) e0) (bE i fun c0 I i => yG (nT (bfalse g)) (yIa SL_56 e0 e0 b (rdI E) I) (yG (nT (bfalse g)) (yB O_4 e0 b (rdI E) I) (yG (nT (bfalse g)) (ynot e0) (yY (pt_ (.bool (!c0)) e0 (nT (bfalse g)) e0) ?_)))))
    cases i
    exact H _ _ ⟨x, y, z, rfl, A, r, rfl, b⟩
  rintro f w ⟨J, K, L, c1, N, O, c2, b⟩
  refine wK b7 ?_
  have R : ∀ (B : LI) (C : Hdr) (f : FV) w, f 0 = h.v → f 1 = j.v → f 5 = C.v → f 8 = iV (m.length : Int) → f 9 = iV c → St w0 ros (row 3 I1 C.v B :: rs) w → blocks_rest_j7 c B = some a5 → b4 .normal (fr 30 f) w := by
   intro B C f w c3 c4 c5 c6 c7 b o
   refine b5 _ _ _ (b3 _ _ (wR (yY (yadd (eh c7) rfl) (Ym (iV (wa .i64 c 1)) e0 (wN ?_)))))
   cases o
   exact a7 _ _ _ rfl ⟨_, _, _, _, rfl, rfl, c3, c4, c5, c6, rfl, b⟩
  refine cB (eh c2) d (fun c8 d => ?_) fun c8 d => ?_
  ·exact wR (Ym k.v (eh L) (Ym (iV c) (eh c1) (yH (rLt (n := 1) (l := [c]) b SL_22 [iV c] (bp1 e0) rfl rfl (mks1 (cs := [iV c]) rfl mkI mks0)) fun d3 w b => bE d fun d4 c9 d => yH (rAp (b.k11) SL_22 e0 e0 rO1 c9) fun d0 w b => Ya d0.v e0 (wN (R _ _ _ _ J K rfl N O (b.k1f) d)))))
  ·exact wp_skip (R _ _ _ _ J K L N O b d)
 ·refine wp_exit (b1 _ _ _ rfl ?_)
  cases d
  exact a8 _ _ _ _ rfl rfl (a2 _ _ _ _ z b (a6 _ rfl))
end Go.Proofs.YtgnfkbaghjmgiaaGreatDoor
