/- Walks: each function computes its model, printed. -/
import Derived.Test.YtgnfkbaghjmgiaaGreatDoorSxX
import Derived.Test.YtgnfkbaghjmgiaaGreatDoorTy
import Derived.Test.YtgnfkbaghjmgiaaGreatDoorM7
import Derived.Test.YtgnfkbaghjmgiaaGreatDoorSxS
import Derived.Test.YtgnfkbaghjmgiaaGreatDoorSxT
namespace Go.Proofs.YtgnfkbaghjmgiaaGreatDoor
open Go Sx M
set_option maxRecDepth 100000
set_option maxHeartbeats 40000000
set_option linter.unusedVariables false
attribute [local irreducible] wpList Code.wp Calls DR QR QS LA LS St
variable {w0 : World} {ros : List Fact} {rs : List Res} {w : World}
theorem matrix_within_ok {a c d : Int} {out : Bool} (i : matrix_within a c d = some out) (g : St w0 ros rs w) :
  Calls Tryz.prog 70 #[iV a, iV c, iV d] w (fun e w => e = .returned (.bool out) ∧ St w0 ros rs w) := by
 refine enterQ Tryz.func70 rfl Tryz.ntmps70 rfl fun Q j => sR fun _ k => Ya (.bool false) rfl (wK k (sR fun _ l => Ym (iV a) e0 (Ym (iV c) e0 (yY (ygeq e0 e0) (Ym (.bool (decide (c ≤ a))) e0 ?_)))))
 refine joinW 4 (fun f w => f 14 = .bool ((decide (c ≤ a)) && (decide (a ≤ d))) ∧ St w0 ros rs w) (fun h => ?_) ?_
 ·rcases Bool.eq_false_or_eq_true (decide (c ≤ a)) with b | b
  ·exact yG b (m_ (iV a) e0) (yG b (m_ (iV d) e0) (yG b (yleq e0 e0) (yY (pt_ (.bool (decide (a ≤ d))) e0 b e0) (h _ _ ⟨(congrArg Value.bool (andT b)), g⟩))))
  ·exact gN b (gN b (gN b (yY (pf_ (.bool false) e0 b rfl) (h _ _ ⟨(congrArg Value.bool (andF b)), g⟩))))
 rintro f w ⟨m, g⟩
 refine Ya (.bool ((decide (c ≤ a)) && (decide (a ≤ d)))) (eh m) (wK l (wp_ret ?_))
 cases i
 exact j _ _ _ (fin1r Tryz.results70 ⟨rfl, rfl⟩ ⟨rfl, g⟩)
theorem cmp_isNaN_int_ok {a : Int} {out : Bool} (b : cmp_isNaN_int a = some out) (c : St w0 ros rs w) :
  Calls Tryz.prog 123 #[iV a] w (fun e w => e = .returned (.bool out) ∧ St w0 ros rs w) := by
 refine enterQ Tryz.func123 rfl Tryz.ntmps123 rfl fun Q d => sR fun _ f => Ya (.bool false) rfl (wK f (sR fun _ g => Ym (iV a) e0 (Ym (iV a) e0 (yY (yneq e0 e0) (Ya (.bool (!(decide (a = a)))) e0 (wK g ?_))))))
 refine wp_ret ?_
 cases b
 exact d _ _ _ (fin1r Tryz.results123 ⟨rfl, rfl⟩ ⟨rfl, c⟩)
theorem cmp_Less_int_ok {d g : Int} {out : Bool} (i : cmp_Less_int d g = some out) (a : St w0 ros rs w) :
  Calls Tryz.prog 94 #[iV d, iV g] w (fun e w => e = .returned (.bool out) ∧ St w0 ros rs w) := by
 refine enterQ Tryz.func94 rfl Tryz.ntmps94 rfl fun Q m => sR fun _ n => Ya (.bool false) rfl (wK n (sR fun _ o => Ym (iV d) e0 (bE i fun p q i => yC (yCall FN_123 (a1 e0)) (cmp_isNaN_int_ok q a) ?_)))
 rintro _ w ⟨rfl, a⟩
 refine ⟨_, rfl, ?_⟩
 refine Ym (.bool p) e0 (bE i fun j h i => ?_)
 refine joinW 4 (fun f w => f 0 = iV d ∧ f 1 = iV g ∧ f 11 = .bool j ∧ St w0 ros rs w) (fun k => ?_) ?_
 ·rcases iteS h with ⟨c, h⟩ | ⟨c, h⟩
  ·refine yG c (m_ (iV g) e0) (bE h fun r s h => Yc (wG c) rfl (yCall FN_123 (a1 e0)) (cmp_isNaN_int_ok s a) ?_)
   rintro _ w ⟨rfl, a⟩
   refine ⟨_, rfl, ?_⟩
   refine yG c (ynot e0) (yY (pt_ (.bool (!r)) e0 c e0) ?_)
   cases h
   exact k _ _ ⟨rfl, rfl, rfl, a⟩
  ·refine gN (bfalse c) (gN (bfalse c) (gN (bfalse c) (yY (pf_ (.bool false) e0 (bfalse c) rfl) ?_)))
   cases h
   exact k _ _ ⟨rfl, rfl, rfl, a⟩
 rintro f w ⟨t, u, v, a⟩
 refine Ym (.bool j) (eh v) ?_
 refine joinW 4 (fun f w => f 16 = .bool (j || (decide (d < g))) ∧ St w0 ros rs w) (fun l => ?_) ?_
 ·rcases Bool.eq_false_or_eq_true j with b | b
  ·exact gN b (gN b (gN b (yY (pt_ (.bool true) e0 b rfl) (l _ _ ⟨(congrArg Value.bool (orT b)), a⟩))))
  ·exact yG b (m_ (iV d) (eh t)) (yG b (m_ (iV g) (eh u)) (yG b (ylss e0 e0) (yY (pf_ (.bool (decide (d < g))) e0 b e0) (l _ _ ⟨(congrArg Value.bool (orF b)), a⟩))))
 rintro f w ⟨x, a⟩
 refine Ya (.bool (j || (decide (d < g)))) (eh x) (wK o (wp_ret ?_))
 cases i
 exact m _ _ _ (fin1r Tryz.results94 ⟨rfl, rfl⟩ ⟨rfl, a⟩)
theorem slices_IsSorted_int_ok {k : LI} {g : Hdr} {out : Bool} (i : slices_IsSorted_int k = some out) (h : imm I1 g.v k ∈ ros) (b : St w0 ros rs w) :
  Calls Tryz.prog 99 #[g.v] w (fun e w => e = .returned (.bool out) ∧ St w0 ros rs w) := by
 refine enterQ Tryz.func99 rfl Tryz.ntmps99 rfl fun Q m => sR fun _ y => Ya (.bool false) rfl (wK y (seqQ fun V z A => sR fun _ B => Ym g.v e0 (yY (yLen SL_22 e0 b (rdI h)) (yY (ysub e0 rfl) (Ya (iV (ws .i64 (k.length : Int) 1)) e0 (wN ?_))))))
 refine B _ _ (blockQ fun n o => bE i fun p C i => ?_)
 have D : ∀ (f : FV) w, St w0 ros rs w → .inl () = p → n (.exit 0) (fr 21 f) w := by
  intro f w b ho
  subst ho
  refine o _ _ _ (z _ _ (sR fun _ E => Ya (.bool true) rfl (wK E (wp_ret ?_))))
  cases i
  exact m _ _ _ (fin1r Tryz.results99 ⟨rfl, rfl⟩ ⟨rfl, b⟩)
 have F : ∀ (f : FV) w, f 2 = .bool false → St w0 ros rs w → .inr () = p → n .ret (fr 21 f) w := by
  intro f w G b ho
  subst ho
  refine o _ _ _ (A _ _ _ rfl ?_)
  cases i
  exact m _ _ _ (fin1r Tryz.results99 ⟨rfl, G⟩ ⟨rfl, b⟩)
 refine loopQ (fun s a w => ∃ (d : Int) (f : FV), d = s ∧ a = fr 21 f ∧ f 0 = g.v ∧ f 3 = iV d ∧ St w0 ros rs w) C ⟨_, _, rfl, rfl, rfl, rfl, b⟩ ?_
 rintro _ _ w W ⟨d, f, rfl, rfl, l, j, b⟩ c q X H r
 refine seqQ fun Z I J => sR fun _ K => Ym (iV d) (eh j) (yY (ygtr e0 rfl) (wK K ?_))
 refine cIf e0 c (fun L c => ?_) fun L c => ?_
 ·refine wp_skip (I _ _ (seqQ fun a0 N O => blockQ fun _ t => sQ fun _ R => bE c fun a1 u c => bE c fun a3 x c => bE c fun a4 S c => dR [0, 0, 3, 7, 0, 0, 32, 112, 240, 511] [9] 1 folM ?_))
  replace b := b.drew
  refine Dn [0, 1, 2, 3, 4, 5, 6, 7, 8] [] [9] (yR rfl (m_ g.v (eh l)) (yR rfl (m_ (iV d) (eh j)) (yR rfl (yIa SL_22 e0 e0 b (rdI h) u) (yR rfl (yI O_3 e0 b (rdI h) u) (yR rfl (m_ g.v (eh l)) (yR rfl (m_ (iV d) (eh j)) (yR rfl (ysub e0 rfl) (yR rfl (yIa SL_22 e0 e0 b (rdI h) x) (yR rfl (yI O_3 e0 b (rdI h) x) (Rn QSn ?_))))))))))
  refine Lc1 rfl ?_
  refine Lk wn (yCall FN_94 (a2 e0 e0)) (cmp_Less_int_ok S b) ?_
  rintro _ w ⟨rfl, b⟩
  refine ⟨_, rfl, ?_⟩
  refine Dz [] [] (Rn QSn (R _ _ (cB e0 c (fun T c => ?_) fun T c => ?_)))
  ·refine sR fun _ U => Ya (.bool false) rfl (wK U (wp_ret (t _ _ _ (O _ _ _ rfl ?_))))
   cases c
   exact r _ _ _ _ rfl rfl (F _ _ rfl b (q _ rfl))
  ·refine wp_skip (t _ _ _ (N _ _ (wR (Ym (iV d) (eh j) (yY (ysub e0 rfl) (Ya (iV (ws .i64 d 1)) e0 (wN ?_)))))))
   cases c
   exact H _ _ _ rfl ⟨_, _, rfl, rfl, l, rfl, b⟩
 ·refine wp_exit (J _ _ _ rfl ?_)
  cases c
  exact r _ _ _ _ rfl rfl (D _ _ b (q _ rfl))
theorem matrix_columns_ok {x g : Int} {L b4 b5 : LI} {h l F : Hdr} {out : Bool} (m : matrix_columns x g L b4 b5 = some out) (i : imm I1 h.v L ∈ ros) (T : imm I1 l.v b4 ∈ ros) (e4 : imm (rI .u64) F.v b5 ∈ ros) (b : St w0 ros rs w) :
  Calls Tryz.prog 71 #[.agg #[iV x, iV g, h.v, l.v, F.v]] w (fun e w => e = .returned (.bool out) ∧ St w0 ros rs w) := by
 refine enterQ Tryz.func71 rfl Tryz.ntmps71 rfl fun Q a6 => sR fun _ e5 => yBb (r_box (vals := [iV x, iV g, h.v, l.v, F.v]) b e0 rfl) fun E w b => Ya (.bool false) rfl (wK e5 (seqQ fun l4 e6 e7 => sQ fun _ e8 => bE m fun y N m => bE m fun r G m => bE m fun p z m => bE m fun R A m => ?_))
 refine joinN (n := 84) (fun f w => f 1 = (pB E) ∧ f 47 = .bool R ∧ St w0 ros (box E 27 [iV x, iV g, h.v, l.v, F.v] :: rs) w) (fun U => ?_) ?_
 ·rcases iteS N with ⟨d, N⟩ | ⟨d, N⟩
  ·refine bE N fun l5 K N => ?_
   have W := someI N
   rcases iteS G with ⟨j, G⟩ | ⟨j, G⟩
   ·have b6 := someI G
    have t : r = true := b6.symm
    rw [if_pos t] at z
    have b7 := someI z
    have H : p = true := b7.symm
    rw [if_pos H] at A
    have e9 := someI A
    refine dR [0, 1, 3, 0, 8, 24, 63, 127, 255, 511, 1023, 2047, 4095, 8191, 16383, 32767, 65535, 131071, 262143, 524287, 1048575, 2097151, 4194303, 2097151, 10485759, 33554431, 67108863, 2097151, 136314879, 404750335, 1073741823, 2147483647, 4294967295, 8589934591, 17179869183, 34359738367, 8589934591, 77309411327, 214748364799, 549755813887, 1099511627775] [17] 1 folM ?_
    replace b := b.drew
    refine Dn [0, 1, 2, 3, 4, 5, 6, 7, 8, 9, 10, 11, 12, 13, 14, 15, 16] [] [17] (yR rfl (yFb FL_27_2 e0) (yR rfl (lb_ h.v O_22 e0 b R0) (yR rfl (yLen SL_22 e0 b (rdI i)) (yR rfl (yFb FL_27_1 e0) (yR rfl (lb_ (iV g) O_3 e0 b R0) (yR rfl (yadd e0 rfl) (yR rfl (yneq e0 e0) (yR rfl (m_ (.bool (!(decide ((L.length : Int) = (wa .i64 g 1))))) e0) (Ry rfl rfl (wG (nF (dT d))) (yFb FL_27_2 e0) (Ry rfl rfl (wG (nF (dT d))) (lb_ h.v O_22 e0 b R0) (Ry rfl rfl (wG (nF (dT d))) (yIa SL_22 e0 rfl b (rdI i) K) (Ry rfl rfl (wG (nF (dT d))) (yI O_3 e0 b (rdI i) K) (Ry rfl rfl (wG (nF (dT d))) (yneq e0 rfl) ?_)))))))))))))
    refine yR rfl (pf_ (.bool y) e0 (nF (dT d)) (eqv W e0)) (yR rfl (m_ (.bool y) e0) (Rx rfl rfl (wX j) (Rx rfl rfl (wX j) (Rn QSn ?_))))
    refine Lc1 rfl ?_
    refine Lx (wX j) (Dz [18, 19, 20, 21, 22, 23, 24, 25, 26, 27, 28, 29, 30, 31, 32, 33, 34, 35, 36, 37, 38, 39, 40] [] (Rx rfl rfl (wX j) (yR rfl (pt_ (.bool r) e0 j (eqv b6 rfl)) (yR rfl (m_ (.bool r) e0) (Rx rfl rfl (wX t) (Rx rfl rfl (wX t) (Rx rfl rfl (wX t) (Rx rfl rfl (wX t) (Rx rfl rfl (wX t) (Rx rfl rfl (wX t) (Rx rfl rfl (wX t) (Rx rfl rfl (wX t) (Rx rfl rfl (wX t) ?_)))))))))))))
    exact Rx rfl rfl (wX t) (yR rfl (pt_ (.bool p) e0 t (eqv b7 rfl)) (yR rfl (m_ (.bool p) e0) (Rx rfl rfl (wX H) (Rx rfl rfl (wX H) (Rx rfl rfl (wX H) (Rx rfl rfl (wX H) (Rx rfl rfl (wX H) (Rx rfl rfl (wX H) (Rx rfl rfl (wX H) (yR rfl (pt_ (.bool R) e0 H (eqv e9 rfl)) (Rn QSn (U _ _ ⟨rfl, rfl, b⟩))))))))))))
   ·refine bE G fun l6 a7 G => ?_
    have a8 := someI G
    rcases iteS z with ⟨c, z⟩ | ⟨c, z⟩
    ·have b8 := someI z
     have I : p = true := b8.symm
     rw [if_pos I] at A
     have f0 := someI A
     refine dR [0, 1, 3, 0, 8, 24, 63, 127, 255, 511, 1023, 2047, 4095, 8191, 16383, 32767, 65535, 131071, 262143, 524287, 1048575, 2097151, 4194303, 2097151, 10485759, 33554431, 67108863, 2097151, 136314879, 404750335, 1073741823, 2147483647, 4294967295, 8589934591, 17179869183, 34359738367, 8589934591, 77309411327, 214748364799, 549755813887, 1099511627775] [17] 1 folM ?_
     replace b := b.drew
     refine Dn [0, 1, 2, 3, 4, 5, 6, 7, 8, 9, 10, 11, 12, 13, 14, 15, 16] [] [17] (yR rfl (yFb FL_27_2 e0) (yR rfl (lb_ h.v O_22 e0 b R0) (yR rfl (yLen SL_22 e0 b (rdI i)) (yR rfl (yFb FL_27_1 e0) (yR rfl (lb_ (iV g) O_3 e0 b R0) (yR rfl (yadd e0 rfl) (yR rfl (yneq e0 e0) (yR rfl (m_ (.bool (!(decide ((L.length : Int) = (wa .i64 g 1))))) e0) (Ry rfl rfl (wG (nF (dT d))) (yFb FL_27_2 e0) (Ry rfl rfl (wG (nF (dT d))) (lb_ h.v O_22 e0 b R0) (Ry rfl rfl (wG (nF (dT d))) (yIa SL_22 e0 rfl b (rdI i) K) (Ry rfl rfl (wG (nF (dT d))) (yI O_3 e0 b (rdI i) K) (Ry rfl rfl (wG (nF (dT d))) (yneq e0 rfl) ?_)))))))))))))
     refine yR rfl (pf_ (.bool y) e0 (nF (dT d)) (eqv W e0)) (yR rfl (m_ (.bool y) e0) (Ry rfl rfl (wG (bfalse j)) (yFb FL_27_2 e0) (Ry rfl rfl (wG (bfalse j)) (lb_ h.v O_22 e0 b R0) (Rn QSn ?_))))
     refine Lc1 rfl ?_
     refine Lk (wG (bfalse j)) (yCall FN_99 (a1 e0)) (slices_IsSorted_int_ok a7 i b) ?_
     rintro _ w ⟨rfl, b⟩
     refine ⟨_, rfl, ?_⟩
     refine Dz [18, 19, 20, 21, 22, 23, 24, 25, 26, 27, 28, 29, 30, 31, 32, 33, 34, 35, 36, 37, 38, 39, 40] [] (Ry rfl rfl (wG (bfalse j)) (ynot e0) (yR rfl (pf_ (.bool r) e0 (bfalse j) (eqv a8 e0)) (yR rfl (m_ (.bool r) e0) (Rx rfl rfl (wX c) (Rx rfl rfl (wX c) (Rx rfl rfl (wX c) (Rx rfl rfl (wX c) (Rx rfl rfl (wX c) (Rx rfl rfl (wX c) (Rx rfl rfl (wX c) (Rx rfl rfl (wX c) (Rx rfl rfl (wX c) (Rx rfl rfl (wX c) ?_)))))))))))))
     exact yR rfl (pt_ (.bool p) e0 c (eqv b8 rfl)) (yR rfl (m_ (.bool p) e0) (Rx rfl rfl (wX I) (Rx rfl rfl (wX I) (Rx rfl rfl (wX I) (Rx rfl rfl (wX I) (Rx rfl rfl (wX I) (Rx rfl rfl (wX I) (Rx rfl rfl (wX I) (yR rfl (pt_ (.bool R) e0 I (eqv f0 rfl)) (Rn QSn (U _ _ ⟨rfl, rfl, b⟩)))))))))))
    ·refine bE z fun l7 X z => ?_
     have c0 := someI z
     rcases iteS A with ⟨k, A⟩ | ⟨k, A⟩
     ·have f1 := someI A
      refine dR [0, 1, 3, 0, 8, 24, 63, 127, 255, 511, 1023, 2047, 4095, 8191, 16383, 32767, 65535, 131071, 262143, 524287, 1048575, 2097151, 4194303, 2097151, 10485759, 33554431, 67108863, 2097151, 136314879, 404750335, 1073741823, 2147483647, 4294967295, 8589934591, 17179869183, 34359738367, 8589934591, 77309411327, 214748364799, 549755813887, 1099511627775] [17] 1 folM ?_
      replace b := b.drew
      refine Dn [0, 1, 2, 3, 4, 5, 6, 7, 8, 9, 10, 11, 12, 13, 14, 15, 16] [] [17] (yR rfl (yFb FL_27_2 e0) (yR rfl (lb_ h.v O_22 e0 b R0) (yR rfl (yLen SL_22 e0 b (rdI i)) (yR rfl (yFb FL_27_1 e0) (yR rfl (lb_ (iV g) O_3 e0 b R0) (yR rfl (yadd e0 rfl) (yR rfl (yneq e0 e0) (yR rfl (m_ (.bool (!(decide ((L.length : Int) = (wa .i64 g 1))))) e0) (Ry rfl rfl (wG (nF (dT d))) (yFb FL_27_2 e0) (Ry rfl rfl (wG (nF (dT d))) (lb_ h.v O_22 e0 b R0) (Ry rfl rfl (wG (nF (dT d))) (yIa SL_22 e0 rfl b (rdI i) K) (Ry rfl rfl (wG (nF (dT d))) (yI O_3 e0 b (rdI i) K) (Ry rfl rfl (wG (nF (dT d))) (yneq e0 rfl) ?_)))))))))))))
      refine yR rfl (pf_ (.bool y) e0 (nF (dT d)) (eqv W e0)) (yR rfl (m_ (.bool y) e0) (Ry rfl rfl (wG (bfalse j)) (yFb FL_27_2 e0) (Ry rfl rfl (wG (bfalse j)) (lb_ h.v O_22 e0 b R0) (Rn QSn ?_))))
      refine Lc1 rfl ?_
      refine Lk (wG (bfalse j)) (yCall FN_99 (a1 e0)) (slices_IsSorted_int_ok a7 i b) ?_
      rintro _ w ⟨rfl, b⟩
      refine ⟨_, rfl, ?_⟩
      refine Dz [18, 19, 20, 21, 22, 23, 24, 25, 26, 27, 28, 29, 30, 31, 32, 33, 34, 35, 36, 37, 38, 39, 40] [] (Ry rfl rfl (wG (bfalse j)) (ynot e0) (yR rfl (pf_ (.bool r) e0 (bfalse j) (eqv a8 e0)) (yR rfl (m_ (.bool r) e0) (Ry rfl rfl (wG (bfalse c)) (yFb FL_27_2 e0) (Ry rfl rfl (wG (bfalse c)) (lb_ h.v O_22 e0 b R0) (Ry rfl rfl (wG (bfalse c)) (yFb FL_27_1 e0) (Ry rfl rfl (wG (bfalse c)) (lb_ (iV g) O_3 e0 b R0) (Ry rfl rfl (wG (bfalse c)) (yIa SL_22 e0 e0 b (rdI i) X) (Ry rfl rfl (wG (bfalse c)) (yI O_3 e0 b (rdI i) X) (Ry rfl rfl (wG (bfalse c)) (yFb FL_27_3 e0) (Ry rfl rfl (wG (bfalse c)) (lb_ l.v O_22 e0 b R0) (Ry rfl rfl (wG (bfalse c)) (yLen SL_22 e0 b (rdI T)) (Ry rfl rfl (wG (bfalse c)) (yneq e0 e0) ?_)))))))))))))
      exact yR rfl (pf_ (.bool p) e0 (bfalse c) (eqv c0 e0)) (yR rfl (m_ (.bool p) e0) (Rx rfl rfl (wX k) (Rx rfl rfl (wX k) (Rx rfl rfl (wX k) (Rx rfl rfl (wX k) (Rx rfl rfl (wX k) (Rx rfl rfl (wX k) (Rx rfl rfl (wX k) (yR rfl (pt_ (.bool R) e0 k (eqv f1 rfl)) (Rn QSn (U _ _ ⟨rfl, rfl, b⟩)))))))))))
     ·have f2 := someI A
      refine dR [0, 1, 3, 0, 8, 24, 63, 127, 255, 511, 1023, 2047, 4095, 8191, 16383, 32767, 65535, 131071, 262143, 524287, 1048575, 2097151, 4194303, 2097151, 10485759, 33554431, 67108863, 2097151, 136314879, 404750335, 1073741823, 2147483647, 4294967295, 8589934591, 17179869183, 34359738367, 8589934591, 77309411327, 214748364799, 549755813887, 1099511627775] [17] 1 folM ?_
      replace b := b.drew
      refine Dn [0, 1, 2, 3, 4, 5, 6, 7, 8, 9, 10, 11, 12, 13, 14, 15, 16] [] [17] (yR rfl (yFb FL_27_2 e0) (yR rfl (lb_ h.v O_22 e0 b R0) (yR rfl (yLen SL_22 e0 b (rdI i)) (yR rfl (yFb FL_27_1 e0) (yR rfl (lb_ (iV g) O_3 e0 b R0) (yR rfl (yadd e0 rfl) (yR rfl (yneq e0 e0) (yR rfl (m_ (.bool (!(decide ((L.length : Int) = (wa .i64 g 1))))) e0) (Ry rfl rfl (wG (nF (dT d))) (yFb FL_27_2 e0) (Ry rfl rfl (wG (nF (dT d))) (lb_ h.v O_22 e0 b R0) (Ry rfl rfl (wG (nF (dT d))) (yIa SL_22 e0 rfl b (rdI i) K) (Ry rfl rfl (wG (nF (dT d))) (yI O_3 e0 b (rdI i) K) (Ry rfl rfl (wG (nF (dT d))) (yneq e0 rfl) ?_)))))))))))))
      refine yR rfl (pf_ (.bool y) e0 (nF (dT d)) (eqv W e0)) (yR rfl (m_ (.bool y) e0) (Ry rfl rfl (wG (bfalse j)) (yFb FL_27_2 e0) (Ry rfl rfl (wG (bfalse j)) (lb_ h.v O_22 e0 b R0) (Rn QSn ?_))))
      refine Lc1 rfl ?_
      refine Lk (wG (bfalse j)) (yCall FN_99 (a1 e0)) (slices_IsSorted_int_ok a7 i b) ?_
      rintro _ w ⟨rfl, b⟩
      refine ⟨_, rfl, ?_⟩
      refine Dz [18, 19, 20, 21, 22, 23, 24, 25, 26, 27, 28, 29, 30, 31, 32, 33, 34, 35, 36, 37, 38, 39, 40] [] (Ry rfl rfl (wG (bfalse j)) (ynot e0) (yR rfl (pf_ (.bool r) e0 (bfalse j) (eqv a8 e0)) (yR rfl (m_ (.bool r) e0) (Ry rfl rfl (wG (bfalse c)) (yFb FL_27_2 e0) (Ry rfl rfl (wG (bfalse c)) (lb_ h.v O_22 e0 b R0) (Ry rfl rfl (wG (bfalse c)) (yFb FL_27_1 e0) (Ry rfl rfl (wG (bfalse c)) (lb_ (iV g) O_3 e0 b R0) (Ry rfl rfl (wG (bfalse c)) (yIa SL_22 e0 e0 b (rdI i) X) (Ry rfl rfl (wG (bfalse c)) (yI O_3 e0 b (rdI i) X) (Ry rfl rfl (wG (bfalse c)) (yFb FL_27_3 e0) (Ry rfl rfl (wG (bfalse c)) (lb_ l.v O_22 e0 b R0) (Ry rfl rfl (wG (bfalse c)) (yLen SL_22 e0 b (rdI T)) (Ry rfl rfl (wG (bfalse c)) (yneq e0 e0) ?_)))))))))))))
      exact yR rfl (pf_ (.bool p) e0 (bfalse c) (eqv c0 e0)) (yR rfl (m_ (.bool p) e0) (Ry rfl rfl (wG (bfalse k)) (yFb FL_27_3 e0) (Ry rfl rfl (wG (bfalse k)) (lb_ l.v O_22 e0 b R0) (Ry rfl rfl (wG (bfalse k)) (yLen SL_22 e0 b (rdI T)) (Ry rfl rfl (wG (bfalse k)) (yFb FL_27_4 e0) (Ry rfl rfl (wG (bfalse k)) (lb_ F.v O_25 e0 b R0) (Ry rfl rfl (wG (bfalse k)) (yLen SL_25 e0 b (rdI e4)) (Ry rfl rfl (wG (bfalse k)) (yneq e0 e0) (yR rfl (pf_ (.bool R) e0 (bfalse k) (eqv f2 e0)) (Rn QSn (U _ _ ⟨rfl, rfl, b⟩)))))))))))
  ·have c1 := someI N
   have S : y = true := c1.symm
   rw [if_pos S] at G
   have c2 := someI G
   have u : r = true := c2.symm
   rw [if_pos u] at z
   have c3 := someI z
   have J : p = true := c3.symm
   rw [if_pos J] at A
   have f3 := someI A
   refine dR [0, 1, 3, 0, 8, 24, 63, 127, 255, 511, 1023, 2047, 4095, 8191, 16383, 32767, 65535, 131071, 262143, 524287, 1048575, 2097151, 4194303, 2097151, 10485759, 33554431, 67108863, 2097151, 136314879, 404750335, 1073741823, 2147483647, 4294967295, 8589934591, 17179869183, 34359738367, 8589934591, 77309411327, 214748364799, 549755813887, 1099511627775] [17] 1 folM ?_
   replace b := b.drew
   refine Dn [0, 1, 2, 3, 4, 5, 6, 7, 8, 9, 10, 11, 12, 13, 14, 15, 16] [] [17] (yR rfl (yFb FL_27_2 e0) (yR rfl (lb_ h.v O_22 e0 b R0) (yR rfl (yLen SL_22 e0 b (rdI i)) (yR rfl (yFb FL_27_1 e0) (yR rfl (lb_ (iV g) O_3 e0 b R0) (yR rfl (yadd e0 rfl) (yR rfl (yneq e0 e0) (yR rfl (m_ (.bool (!(decide ((L.length : Int) = (wa .i64 g 1))))) e0) (Rx rfl rfl (wX (nT (dF d))) (Rx rfl rfl (wX (nT (dF d))) (Rx rfl rfl (wX (nT (dF d))) (Rx rfl rfl (wX (nT (dF d))) (Rx rfl rfl (wX (nT (dF d))) ?_)))))))))))))
   refine yR rfl (pt_ (.bool y) e0 (nT (dF d)) (eqv c1 rfl)) (yR rfl (m_ (.bool y) e0) (Rx rfl rfl (wX S) (Rx rfl rfl (wX S) (Rn QSn ?_))))
   refine Lc1 rfl ?_
   refine Lx (wX S) (Dz [18, 19, 20, 21, 22, 23, 24, 25, 26, 27, 28, 29, 30, 31, 32, 33, 34, 35, 36, 37, 38, 39, 40] [] (Rx rfl rfl (wX S) (yR rfl (pt_ (.bool r) e0 S (eqv c2 rfl)) (yR rfl (m_ (.bool r) e0) (Rx rfl rfl (wX u) (Rx rfl rfl (wX u) (Rx rfl rfl (wX u) (Rx rfl rfl (wX u) (Rx rfl rfl (wX u) (Rx rfl rfl (wX u) (Rx rfl rfl (wX u) (Rx rfl rfl (wX u) (Rx rfl rfl (wX u) ?_)))))))))))))
   exact Rx rfl rfl (wX u) (yR rfl (pt_ (.bool p) e0 u (eqv c3 rfl)) (yR rfl (m_ (.bool p) e0) (Rx rfl rfl (wX J) (Rx rfl rfl (wX J) (Rx rfl rfl (wX J) (Rx rfl rfl (wX J) (Rx rfl rfl (wX J) (Rx rfl rfl (wX J) (Rx rfl rfl (wX J) (yR rfl (pt_ (.bool R) e0 J (eqv f3 rfl)) (Rn QSn (U _ _ ⟨rfl, rfl, b⟩))))))))))))
 rintro f w ⟨c4, f4, b⟩
 refine e8 _ _ (cB (eh f4) m (fun f5 m => ?_) fun f5 m => ?_)
 ·refine sR fun _ f6 => Ya (.bool false) rfl (wK f6 (wp_ret (e7 _ _ _ rfl ?_)))
  cases m
  exact a6 _ _ _ (fin1r Tryz.results71 ⟨rfl, rfl⟩ ⟨rfl, (b.k10)⟩)
 ·refine wp_skip (e6 _ _ (seqQ fun l8 f7 f8 => sR fun _ f9 => yY (yFb FL_27_1 (eh c4)) (yY (lb_ (iV g) O_3 e0 b R0) (Ym (iV 0) rfl (wK f9 (blockQ fun c5 c6 => bE m fun c7 g0 m => ?_))))))
  have g1 : ∀ (f : FV) w, St w0 ros rs w → .inl () = c7 → c5 (.exit 0) (fr 84 f) w := by
   intro f w b ho
   subst ho
   refine c6 _ _ _ (f7 _ _ (sR fun _ g2 => Ya (.bool true) rfl (wK g2 (wp_ret ?_))))
   cases m
   exact a6 _ _ _ (fin1r Tryz.results71 ⟨rfl, rfl⟩ ⟨rfl, b⟩)
  have g3 : ∀ (f : FV) w, f 2 = .bool false → St w0 ros rs w → .inr () = c7 → c5 .ret (fr 84 f) w := by
   intro f w g4 b ho
   subst ho
   refine c6 _ _ _ (f8 _ _ _ rfl ?_)
   cases m
   exact a6 _ _ _ (fin1r Tryz.results71 ⟨rfl, g4⟩ ⟨rfl, b⟩)
  refine loopQ (fun s a w => ∃ (B : Int) (f : FV), B = s ∧ a = fr 84 f ∧ f 1 = (pB E) ∧ f 49 = iV g ∧ f 50 = iV B ∧ St w0 ros (box E 27 [iV x, iV g, h.v, l.v, F.v] :: rs) w) g0 ⟨_, _, rfl, rfl, c4, rfl, rfl, b⟩ ?_
  rintro _ _ w l9 ⟨B, f, rfl, rfl, Z, c8, a9, b⟩ o c9 m0 g5 d0
  refine sR fun _ g6 => yY (ylss (eh a9) (eh c8)) (wK g6 (seqQ fun m1 g7 g8 => ?_))
  refine cIf e0 o (fun g9 o => ?_) fun g9 o => ?_
  ·refine wp_skip (g7 _ _ (seqQ fun m2 h0 h1 => blockQ fun _ d1 => sR fun _ h2 => Ym (iV B) (eh a9) (Ya (iV B) e0 (wK h2 (sR fun _ h3 => Ya (iV (-1)) rfl (wN ?_))))))
   refine h3 _ _ (sQ fun _ h5 => bE o fun a0 d2 o => bE o fun a2 d3 o => bE o fun a3 d4 o => dR [0, 1, 0, 4, 0, 28, 60, 0, 128, 0, 512, 1920, 3968, 8191, 16383, 0] [] 0 folM ?_)
   replace b := b.drew
   refine Dz [0, 1, 2, 3, 4, 5, 6, 7, 8, 9, 10, 11, 12, 13, 14, 15] [] (yR rfl (yFb FL_27_3 (eh Z)) (yR rfl (lb_ l.v O_22 e0 b R0) (yR rfl (yFb FL_27_2 (eh Z)) (yR rfl (lb_ h.v O_22 e0 b R0) (yR rfl (m_ (iV B) e0) (yR rfl (yIa SL_22 e0 e0 b (rdI i) d2) (yR rfl (yI O_3 e0 b (rdI i) d2) (yR rfl (yFb FL_27_2 (eh Z)) (yR rfl (lb_ h.v O_22 e0 b R0) (yR rfl (m_ (iV B) e0) (yR rfl (yadd e0 rfl) (yR rfl (yIa SL_22 e0 e0 b (rdI i) d3) (yR rfl (yI O_3 e0 b (rdI i) d3) ?_)))))))))))))
   refine yR rfl (ySl SL_22 e0 b (rdI T) (.inl (congrArg some e0)) (.inl (congrArg some e0)) d4) ?_
   replace b := b.sub T d4
   refine yR rfl (yLen SL_22 e0 b (rdI F0)) (yR rfl (m_ (iV 0) rfl) (Rn QSn (h5 _ _ (blockQ fun d5 d6 => bE o fun d7 h7 o => ?_))))
   have h9 : ∀ (f : FV) w, f 1 = (pB E) → f 49 = iV g → f 50 = iV B → St w0 ros (box E 27 [iV x, iV g, h.v, l.v, F.v] :: rs) w → .inl () = d7 → d5 (.exit 2) (fr 84 f) w := by
    intro f w i0 i1 i2 b ho
    subst ho
    refine d6 _ _ _ (d1 _ _ _ (h0 _ _ (wR (yY (yadd (eh i2) rfl) (Ym (iV (wa .i64 B 1)) e0 (wN ?_))))))
    cases o
    exact g5 _ _ _ rfl ⟨_, _, rfl, rfl, i0, i1, rfl, b⟩
   have i3 : ∀ (f : FV) w, f 2 = .bool false → St w0 ros rs w → .inr () = d7 → d5 .ret (fr 84 f) w := by
    intro f w i4 b ho
    subst ho
    refine d6 _ _ _ (d1 _ _ _ (h1 _ _ _ rfl ?_))
    cases o
    exact d0 _ _ _ _ rfl rfl (g3 _ _ i4 b (c9 _ rfl))
   refine loopQ (fun s a w => ∃ (O V : Int) (f : FV), (O, V) = s ∧ a = fr 84 f ∧ f 1 = (pB E) ∧ f 4 = iV O ∧ f 49 = iV g ∧ f 50 = iV B ∧ f 66 = (subH l 1 a0 a2).v ∧ f 67 = iV (a3.length : Int) ∧ f 68 = iV V ∧ St w0 (imm I1 (subH l 1 a0 a2).v a3 :: ros) (box E 27 [iV x, iV g, h.v, l.v, F.v] :: rs) w) h7 ⟨_, _, _, rfl, rfl, Z, rfl, c8, a9, rfl, rfl, rfl, b⟩ ?_
   rintro _ _ w m3 ⟨O, V, f, rfl, rfl, a4, i5, b0, b1, b2, b3, a5, b⟩ C d8 m4 i6 d9
   refine sR fun _ i7 => yY (ylss (eh a5) (eh b3)) (wK i7 (seqQ fun m5 i8 i9 => ?_))
   refine cIf e0 C (fun j0 C => ?_) fun j0 C => ?_
   ·refine wp_skip (i8 _ _ (seqQ fun m6 j2 j3 => blockQ fun _ e1 => sR fun _ j4 => bE C fun D e2 C => yY (yIa SL_22 (eh b2) (eh a5) b (rdI F0) e2) (yY (yI O_3 e0 b (rdI F0) e2) (Ya (iV D) e0 (wK j4 (seqQ fun m7 j5 j6 => sQ fun _ j7 => ?_))))))
    refine wR (Ym (iV D) e0 (Ym (iV O) (eh i5) (yY (yleq e0 e0) (Ym (.bool (decide (D ≤ O))) e0 ?_))))
    refine joinW 5 (fun f w => f 1 = (pB E) ∧ f 6 = iV D ∧ f 49 = iV g ∧ f 50 = iV B ∧ f 66 = (subH l 1 a0 a2).v ∧ f 67 = iV (a3.length : Int) ∧ f 68 = iV V ∧ f 80 = .bool ((decide (D ≤ O)) || (decide (x ≤ D))) ∧ St w0 (imm I1 (subH l 1 a0 a2).v a3 :: ros) (box E 27 [iV x, iV g, h.v, l.v, F.v] :: rs) w) (fun e3 => ?_) ?_
    ·rcases Bool.eq_false_or_eq_true (decide (D ≤ O)) with q | q
     ·exact gN q (gN q (gN q (gN q (yY (pt_ (.bool true) e0 q rfl) (e3 _ _ ⟨a4, rfl, b0, b1, b2, b3, a5, (congrArg Value.bool (orT q)), b⟩)))))
     ·exact yG q (m_ (iV D) e0) (yG q (yFb FL_27_0 (eh a4)) (yG q (lb_ (iV x) O_3 e0 b R0) (yG q (ygeq e0 e0) (yY (pf_ (.bool (decide (x ≤ D))) e0 q e0) (e3 _ _ ⟨a4, rfl, b0, b1, b2, b3, a5, (congrArg Value.bool (orF q)), b⟩)))))
    rintro f w ⟨j8, j9, k0, k7, k8, k9, l0, l1, b⟩
    refine wK j7 (cB (eh l1) C (fun l2 C => ?_) fun l2 C => ?_)
    ·refine sR fun _ l3 => Ya (.bool false) rfl (wK l3 (wp_ret (j6 _ _ _ rfl (e1 _ _ _ (j3 _ _ _ rfl ?_)))))
     cases C
     exact d9 _ _ _ _ rfl rfl (i3 _ _ rfl ((b.k10).facts (allT allI)) (d8 _ rfl))
    ·refine wp_skip (j5 _ _ (wR (Ym (iV D) (eh j9) (Ya (iV D) e0 (wN (e1 _ _ _ (j2 _ _ (wR (yY (yadd (eh l0) rfl) (Ym (iV (wa .i64 V 1)) e0 (wN ?_)))))))))))
     cases C
     exact i6 _ _ _ rfl ⟨_, _, _, rfl, rfl, j8, rfl, k0, k7, k8, k9, rfl, b⟩
   ·refine wp_exit (i9 _ _ _ rfl ?_)
    cases C
    exact d9 _ _ _ _ rfl rfl (h9 _ _ a4 b0 b1 (b.facts (allT allI)) (d8 _ rfl))
  ·refine wp_exit (g8 _ _ _ rfl ?_)
   cases o
   exact d0 _ _ _ _ rfl rfl (g1 _ _ (b.k10) (c9 _ rfl))
theorem float_parts_ok {a : Int} {out : Int × Int} (b : float_parts a = some out) (c : St w0 ros rs w) :
  Calls Tryz.prog 101 #[.int .u64 a] w (fun e w => e = .returned (.tuple #[iV out.1, .int .u64 out.2]) ∧ St w0 ros rs w) := by
 refine enterQ Tryz.func101 rfl Tryz.ntmps101 rfl fun Q d => sR fun _ f => Ya (iV 0) rfl (Ya (.int .u64 0) rfl (wK f (sR fun _ g => Ym (.int .u64 a) e0 (yY (yshrc e0 rfl) (yY (yand e0 rfl) (yY (ycv (k' := .i64) (by kernel_rfl) (by kernel_rfl) e0) (Ym (.int .u64 a) e0 ?_)))))))
 refine yY (yand e0 rfl) (Ya (iV (wc .i64 (wand .u64 (wsrc .u64 a 52) 2047))) e0 (Ya (.int .u64 (wand .u64 a 4503599627370495)) e0 (wK g (wp_ret ?_))))
 cases b
 exact d _ _ _ (fin2r Tryz.results101 ⟨rfl, rfl⟩ ⟨rfl, rfl⟩ ⟨rfl, c⟩)
theorem float_IsFinite_ok {b : Int} {out : Bool} (c : float_IsFinite b = some out) (d : St w0 ros rs w) :
  Calls Tryz.prog 74 #[.int .u64 b] w (fun e w => e = .returned (.bool out) ∧ St w0 ros rs w) := by
 refine enterQ Tryz.func74 rfl Tryz.ntmps74 rfl fun Q f => sR fun _ g => Ya (.bool false) rfl (wK g (sR fun _ h => Ym (.int .u64 b) e0 (bE c fun a i c => yC (yCall FN_101 (a1 e0)) (float_parts_ok i d) ?_)))
 rintro _ w ⟨rfl, d⟩
 refine ⟨_, rfl, ?_⟩
 refine Ym (.tuple #[iV a.1, .int .u64 a.2]) e0 (yY (x_ (iV a.1) e0) (yY (x_ (.int .u64 a.2) e0) (Ya (iV a.1) e0 (Ya (.int .u64 a.2) e0 (wK h (sR fun _ j => Ym (iV a.1) e0 (yY (yneq e0 rfl) (Ya (.bool (!(decide (a.1 = 2047)))) e0 (wK j ?_)))))))))
 refine wp_ret ?_
 cases c
 exact f _ _ _ (fin1r Tryz.results74 ⟨rfl, rfl⟩ ⟨rfl, d⟩)
theorem matrix_Check_1_ok {a : Int} {out : Bool} (b : matrix_Check_1 a = some out) (c : St w0 ros rs w) :
  Calls Tryz.prog 73 #[.int .u64 a] w (fun e w => e = .returned (.bool out) ∧ St w0 ros rs w) := by
 refine enterQ Tryz.func73 rfl Tryz.ntmps73 rfl fun Q d => sR fun _ f => Ya (.bool false) rfl (wK f (sR fun _ g => Ym (.int .u64 a) e0 (bE b fun h i b => yC (yCall FN_74 (a1 e0)) (float_IsFinite_ok i c) ?_)))
 rintro _ w ⟨rfl, c⟩
 refine ⟨_, rfl, ?_⟩
 refine yY (ynot e0) (Ya (.bool (!h)) e0 (wK g (wp_ret ?_)))
 cases b
 exact d _ _ _ (fin1r Tryz.results73 ⟨rfl, rfl⟩ ⟨rfl, c⟩)
theorem slices_IndexFunc_apiFloat_ok {i : LI} {g : Hdr} {out : Int} (h : slices_IndexFunc_apiFloat i = some out) (j : imm (rI .u64) g.v i ∈ ros) (b : St w0 ros rs w) :
  Calls Tryz.prog 100 #[g.v, .func (.func 73) #[] #[]] w (fun e w => e = .returned (iV out) ∧ St w0 ros rs w) := by
 refine enterQ Tryz.func100 rfl Tryz.ntmps100 rfl fun Q m => sR fun _ A => Ya (iV 0) rfl (wK A (seqQ fun Z B C => sR fun _ D => Ym g.v e0 (yY (yLen SL_25 e0 b (rdI j)) (Ym (iV 0) rfl (wK D ?_)))))
 refine blockQ fun n o => bE h fun p E h => ?_
 have F : ∀ (f : FV) w, St w0 ros rs w → .inl () = p → n (.exit 0) (fr 19 f) w := by
  intro f w b ho
  subst ho
  refine o _ _ _ (B _ _ (sR fun _ G => Ya (iV (-1)) rfl (wK G (wp_ret ?_))))
  cases h
  exact m _ _ _ (fin1r Tryz.results100 ⟨rfl, rfl⟩ ⟨rfl, b⟩)
 have H : ∀ (k : Int) (f : FV) w, f 4 = iV k → St w0 ros rs w → .inr k = p → n .ret (fr 19 f) w := by
  intro k f w I b ho
  subst ho
  refine o _ _ _ (C _ _ _ rfl ?_)
  cases h
  exact m _ _ _ (fin1r Tryz.results100 ⟨rfl, I⟩ ⟨rfl, b⟩)
 refine loopQ (fun s a w => ∃ (d : Int) (f : FV), d = s ∧ a = fr 19 f ∧ f 0 = g.v ∧ f 1 = .func (.func 73) #[] #[] ∧ f 7 = iV (i.length : Int) ∧ f 8 = iV d ∧ St w0 ros rs w) E ⟨_, _, rfl, rfl, rfl, rfl, rfl, rfl, b⟩ ?_
 rintro _ _ w a0 ⟨d, f, rfl, rfl, q, r, t, l, b⟩ c u a2 J x
 refine sR fun _ K => yY (ylss (eh l) (eh t)) (wK K (seqQ fun a3 L N => ?_))
 refine cIf e0 c (fun O c => ?_) fun O c => ?_
 ·refine wp_skip (L _ _ (seqQ fun a4 R S => blockQ fun _ y => sR fun _ T => Ym (iV d) (eh l) (Ya (iV d) e0 (wK T (sR fun _ U => Ym (.func (.func 73) #[] #[]) (eh r) (Ym g.v (eh q) ?_))))))
  refine Ym (iV d) e0 (bE c fun a5 z c => yY (yIa SL_25 e0 e0 b (rdI j) z) (yY (yI O_47 e0 b (rdI j) z) (bE c fun a6 V c => yC (yCallw FN_73 e0 (a1 e0)) (matrix_Check_1_ok V b) ?_)))
  rintro _ w ⟨rfl, b⟩
  refine ⟨_, rfl, ?_⟩
  refine wK U (cB e0 c (fun W c => ?_) fun W c => ?_)
  ·refine sR fun _ X => Ym (iV d) e0 (Ya (iV d) e0 (wK X (wp_ret (y _ _ _ (S _ _ _ rfl ?_)))))
   cases c
   exact x _ _ _ _ rfl rfl (H _ _ _ rfl b (u _ rfl))
  ·refine wp_skip (y _ _ _ (R _ _ (wR (yY (yadd (eh l) rfl) (Ym (iV (wa .i64 d 1)) e0 (wN ?_))))))
   cases c
   exact J _ _ _ rfl ⟨_, _, rfl, rfl, q, r, t, rfl, b⟩
 ·refine wp_exit (N _ _ _ rfl ?_)
  cases c
  exact x _ _ _ _ rfl rfl (F _ _ b (u _ rfl))
theorem slices_ContainsFunc_apiFloat_ok {d : LI} {a : Hdr} {out : Bool} (b : slices_ContainsFunc_apiFloat d = some out) (f : imm (rI .u64) a.v d ∈ ros) (c : St w0 ros rs w) :
  Calls Tryz.prog 72 #[a.v, .func (.func 73) #[] #[]] w (fun e w => e = .returned (.bool out) ∧ St w0 ros rs w) := by
 refine enterQ Tryz.func72 rfl Tryz.ntmps72 rfl fun Q g => sR fun _ h => Ya (.bool false) rfl (wK h (sR fun _ i => Ym a.v e0 (Ym (.func (.func 73) #[] #[]) e0 (bE b fun j k b => yC (yCall FN_100 (a2 e0 e0)) (slices_IndexFunc_apiFloat_ok k f c) ?_))))
 rintro _ w ⟨rfl, c⟩
 refine ⟨_, rfl, ?_⟩
 refine yY (ygeq e0 rfl) (Ya (.bool (decide ((0 : Int) ≤ j))) e0 (wK i (wp_ret ?_)))
 cases b
 exact g _ _ _ (fin1r Tryz.results72 ⟨rfl, rfl⟩ ⟨rfl, c⟩)
theorem matrix_Check_ok {g h : Int} {u m x : LI} {l i j : Hdr} {out : Int} (b : matrix_Check g h u m x = some out) (D : imm I1 l.v u ∈ ros) (y : imm I1 i.v m ∈ ros) (z : imm (rI .u64) j.v x ∈ ros) (a : St w0 ros rs w) :
  Calls Tryz.prog 51 #[.agg #[iV g, iV h, l.v, i.v, j.v]] w (fun e w => e = .returned (iV out) ∧ St w0 ros rs w) := by
 refine enterQ Tryz.func51 rfl Tryz.ntmps51 rfl fun Q o => sR fun _ E => yBb (r_box (vals := [iV g, iV h, l.v, i.v, j.v]) a e0 rfl) fun p w a => Ya (iV 0) rfl (wK E (seqQ fun a6 F r => blockQ fun _ q => sR fun _ G => yY (yFb FL_27_0 e0) (yY (lb_ (iV g) O_3 e0 a R0) ?_)))
 refine bE b fun H I b => yC (yCall FN_70 (a3 e0 rfl rfl)) (matrix_within_ok I a) ?_
 rintro _ w ⟨rfl, a⟩
 refine ⟨_, rfl, ?_⟩
 refine yY (ynot e0) (Ym (.bool (!H)) e0 (bE b fun n k b => ?_))
 refine joinW 5 (fun f w => f 1 = (pB p) ∧ f 13 = .bool n ∧ St w0 ros (box p 27 [iV g, iV h, l.v, i.v, j.v] :: rs) w) (fun A => ?_) ?_
 ·rcases iteS k with ⟨d, k⟩ | ⟨d, k⟩
  ·refine yG (nF d) (yFb FL_27_1 e0) (yG (nF d) (lb_ (iV h) O_3 e0 a R0) (bE k fun J K k => Yc (wG (nF d)) rfl (yCall FN_70 (a3 e0 rfl rfl)) (matrix_within_ok K a) ?_))
   rintro _ w ⟨rfl, a⟩
   refine ⟨_, rfl, ?_⟩
   refine yG (nF d) (ynot e0) (yY (pf_ (.bool (!J)) e0 (nF d) e0) ?_)
   cases k
   exact A _ _ ⟨rfl, rfl, a⟩
  ·refine gN (nT (bfalse d)) (gN (nT (bfalse d)) (gN (nT (bfalse d)) (gN (nT (bfalse d)) (yY (pt_ (.bool true) e0 (nT (bfalse d)) rfl) ?_))))
   cases k
   exact A _ _ ⟨rfl, rfl, a⟩
 rintro f w ⟨s, L, a⟩
 refine Ym (.bool n) (eh L) ?_
 refine joinW 5 (fun f w => f 1 = (pB p) ∧ f 19 = .bool (n || (decide ((10000 : Int) < (m.length : Int)))) ∧ St w0 ros (box p 27 [iV g, iV h, l.v, i.v, j.v] :: rs) w) (fun B => ?_) ?_
 ·rcases Bool.eq_false_or_eq_true n with c | c
  ·exact gN c (gN c (gN c (gN c (yY (pt_ (.bool true) e0 c rfl) (B _ _ ⟨s, (congrArg Value.bool (orT c)), a⟩)))))
  ·exact yG c (yFb FL_27_3 (eh s)) (yG c (lb_ i.v O_22 e0 a R0) (yG c (yLen SL_22 e0 a (rdI y)) (yG c (ygtr e0 rfl) (yY (pf_ (.bool (decide ((10000 : Int) < (m.length : Int)))) e0 c e0) (B _ _ ⟨s, (congrArg Value.bool (orF c)), a⟩)))))
 rintro f w ⟨C, N, a⟩
 refine Ya (.bool (n || (decide ((10000 : Int) < (m.length : Int))))) (eh N) (wK G (cB e0 b (fun O b => ?_) fun O b => ?_))
 ·refine sR fun _ R => Ya (iV 6) rfl (wK R (wp_ret (q _ _ _ (r _ _ _ rfl ?_))))
  cases b
  exact o _ _ _ (fin1r Tryz.results51 ⟨rfl, rfl⟩ ⟨rfl, (a.k10)⟩)
 ·refine sR fun _ S => yY (lbs_ [iV g, iV h, l.v, i.v, j.v] ST_27 (eh C) a R0) (bE b fun T U b => yC (yCall FN_71 (a1 e0)) (matrix_columns_ok U D y z a) ?_)
  rintro _ w ⟨rfl, a⟩
  refine ⟨_, rfl, ?_⟩
  refine yY (ynot e0) (Ya (.bool (!T)) e0 (wK S ?_))
  rcases iteS b with ⟨t, b⟩ | ⟨t, b⟩
  ·refine condF e0 (nF t) (sR fun _ V => yY (yFb FL_27_4 (eh C)) (yY (lb_ j.v O_25 e0 a R0) (bE b fun W X b => yC (yCall FN_72 (a2 e0 rfl)) (slices_ContainsFunc_apiFloat_ok X z a) ?_)))
   rintro _ w ⟨rfl, a⟩
   refine ⟨_, rfl, ?_⟩
   refine Ya (.bool W) e0 (wK V (cB e0 b (fun Z b => ?_) fun Z b => ?_))
   ·refine sR fun _ a0 => Ya (iV 4) rfl (wK a0 (wp_ret (q _ _ _ (r _ _ _ rfl ?_))))
    cases b
    exact o _ _ _ (fin1r Tryz.results51 ⟨rfl, rfl⟩ ⟨rfl, (a.k10)⟩)
   ·refine wp_skip (q _ _ _ (F _ _ (sR fun _ a4 => Ya (iV 0) rfl (wK a4 (wp_ret ?_)))))
    cases b
    exact o _ _ _ (fin1r Tryz.results51 ⟨rfl, rfl⟩ ⟨rfl, (a.k10)⟩)
  ·refine condT e0 (nT (bfalse t)) (sR fun _ a5 => Ya (iV 1) rfl (wK a5 (wp_ret (q _ _ _ (r _ _ _ rfl ?_)))))
   cases b
   exact o _ _ _ (fin1r Tryz.results51 ⟨rfl, rfl⟩ ⟨rfl, (a.k10)⟩)
theorem blocks_square_ok {d g : Int} {l m n : LI} {i j k : Hdr} {out : Int} (h : blocks_square d g l m n = some out) (q : imm I1 i.v l ∈ ros) (r : imm I1 j.v m ∈ ros) (s : imm (rI .u64) k.v n ∈ ros) (b : St w0 ros rs w) :
  Calls Tryz.prog 44 #[.agg #[iV d, iV g, i.v, j.v, k.v]] w (fun e w => e = .returned (iV out) ∧ St w0 ros rs w) := by
 refine enterQ Tryz.func44 rfl Tryz.ntmps44 rfl fun Q o => sR fun _ t => yBb (r_box (vals := [iV d, iV g, i.v, j.v, k.v]) b e0 rfl) fun G w b => Ya (iV 0) rfl (wK t (sR fun _ u => yY (lbs_ [iV d, iV g, i.v, j.v, k.v] ST_27 e0 b R0) (bE h fun c x h => yC (yCall FN_51 (a1 e0)) (matrix_Check_ok x q r s b) ?_)))
 rintro _ w ⟨rfl, b⟩
 refine ⟨_, rfl, ?_⟩
 refine Ya (iV c) e0 (wK u (seqQ fun H y z => sR fun _ A => Ym (iV c) e0 (yY (yeql e0 rfl) (Ym (.bool (decide (c = 0))) e0 ?_))))
 refine joinW 6 (fun f w => f 3 = iV c ∧ f 14 = .bool ((decide (c = 0)) && (!(decide (d = g)))) ∧ St w0 ros rs w) (fun p => ?_) ?_
 ·rcases Bool.eq_false_or_eq_true (decide (c = 0)) with a | a
  ·exact yG a (yFb FL_27_0 e0) (yG a (lb_ (iV d) O_3 e0 b R0) (yG a (yFb FL_27_1 e0) (yG a (lb_ (iV g) O_3 e0 b R0) (yG a (yneq e0 e0) (yY (pt_ (.bool (!(decide (d = g)))) e0 a e0) (p _ _ ⟨rfl, (congrArg Value.bool (andT a)), (b.k10)⟩))))))
  ·exact gN a (gN a (gN a (gN a (gN a (yY (pf_ (.bool false) e0 a rfl) (p _ _ ⟨rfl, (congrArg Value.bool (andF a)), (b.k10)⟩))))))
 rintro f w ⟨B, C, b⟩
 refine wK A (cB (eh C) h (fun D h => ?_) fun D h => ?_)
 ·refine sR fun _ E => Ya (iV 5) rfl (wK E (wp_ret (z _ _ _ rfl ?_)))
  cases h
  exact o _ _ _ (fin1r Tryz.results44 ⟨rfl, rfl⟩ ⟨rfl, b⟩)
 ·refine wp_skip (y _ _ (sR fun _ F => Ym (iV c) (eh B) (Ya (iV c) e0 (wK F (wp_ret ?_)))))
  cases h
  exact o _ _ _ (fin1r Tryz.results44 ⟨rfl, rfl⟩ ⟨rfl, b⟩)
theorem matching_Edges_ok {l j : Int} {u x y : LI} {h i m : Hdr} {out : L2} (k : matching_Edges l j u x y = some out) (n : imm I1 h.v u ∈ ros) (z : imm I1 i.v x ∈ ros) (b1 : imm (rI .u64) m.v y ∈ ros) (b : St w0 ros rs w) :
  Calls Tryz.prog 75 #[.agg #[iV l, iV j, h.v, i.v, m.v]] w (fun e w => ∃ (A : Hdr), e = .returned (A.v) ∧ St w0 ros (row 22 S1 A.v out :: rs) w) := by
 refine enterQ Tryz.func75 rfl Tryz.ntmps75 rfl fun Q H => sR fun _ I => yBb (r_box (vals := [iV l, iV j, h.v, i.v, m.v]) b e0 rfl) fun B w b => Ya hnil.v rfl (wK I (sR fun _ J => yY (yFb FL_27_1 e0) (yY (lb_ (iV j) O_3 e0 b R0) (bE k fun K L k => yH (rMk b SL_78 e0 L) ?_))))
 refine fun d w b => Ya d.v e0 (wK J (sQ fun _ N => sR fun _ O => Ym d.v e0 (yY (yLen SL_78 e0 b rO0) (Ym (iV 0) rfl (wK O (blockQ fun R S => bE k fun T U k => ?_))))))
 have V : ∀ (p : L2) (f : FV) w, f 3 = d.v → St w0 ros (row 22 S1 d.v p :: rs) w → p = T → R (.exit 0) (fr 32 f) w := by
  intro p f w W b ho
  subst ho
  refine S _ _ _ (N _ _ (sR fun _ X => Ym d.v (eh W) (Ya d.v e0 (wK X (wp_ret ?_)))))
  cases k
  exact H _ _ _ (fin1r Tryz.results75 ⟨rfl, rfl⟩ ⟨_, rfl, b⟩)
 refine loopQ (fun s a w => ∃ (q : L2) (g : Int) (f : FV), (q, g) = s ∧ a = fr 32 f ∧ f 1 = (pB B) ∧ f 3 = d.v ∧ f 9 = iV (K.length : Int) ∧ f 10 = iV g ∧ St w0 ros (box B 27 [iV l, iV j, h.v, i.v, m.v] :: row 22 S1 d.v q :: rs) w) U ⟨_, _, _, rfl, rfl, rfl, rfl, rfl, rfl, (b.k11)⟩ ?_
 rintro _ _ w b2 ⟨q, g, f, rfl, rfl, o, r, C, t, b⟩ c Z b3 a0 a1
 refine sR fun _ a2 => yY (ylss (eh t) (eh C)) (wK a2 (seqQ fun b4 a3 a4 => ?_))
 refine cIf e0 c (fun a5 c => ?_) fun a5 c => ?_
 ·refine wp_skip (a3 _ _ (sQ fun _ a6 => blockQ fun _ a7 => sR fun _ a8 => Ym (iV g) (eh t) (Ya (iV g) e0 (wK a8 (bE c fun a9 D c => bE c fun b0 E c => bE c fun b5 F c => bE c fun b6 G c => ?_)))))
  refine dR [0, 0, 0, 4, 0, 16, 0, 112, 240, 0, 512, 0, 2048, 7680, 15872, 32764, 65535, 131071] [17] 1 folM ?_
  replace b := b.drew
  refine Dn [0, 1, 2, 3, 4, 5, 6, 7, 8, 9, 10, 11, 12, 13, 14, 15, 16] [] [17] (yR rfl (m_ d.v (eh r)) (yR rfl (m_ (iV g) e0) (yR rfl (yFb FL_27_3 (eh o)) (yR rfl (lb_ i.v O_22 e0 b R0) (yR rfl (yFb FL_27_2 (eh o)) (yR rfl (lb_ h.v O_22 e0 b R0) (yR rfl (m_ (iV g) e0) (yR rfl (yIa SL_22 e0 e0 b (rdI n) D) (yR rfl (yI O_3 e0 b (rdI n) D) (yR rfl (yFb FL_27_2 (eh o)) (yR rfl (lb_ h.v O_22 e0 b R0) (yR rfl (m_ (iV g) e0) (yR rfl (yadd e0 rfl) ?_)))))))))))))
  refine yR rfl (yIa SL_22 e0 e0 b (rdI n) E) (yR rfl (yI O_3 e0 b (rdI n) E) (yR rfl (ySl SL_22 e0 b (rdI z) (.inl (congrArg some e0)) (.inl (congrArg some e0)) F) ?_))
  replace b := b.sub z F
  refine yR rfl (yIs SL_78 e0 e0 b rO1 G) (Rn QSn ?_)
  refine Lc1 rfl ?_
  replace b := b.k11
  refine LT wn (r_sti (cs := [(subH i 1 a9 b0).v]) b O_22 rfl e0 e0 rfl (mkS F0) G) fun w b => Dz [] [] (Rn QSn (a7 _ _ _ (a6 _ _ (wR (yY (yadd (eh t) rfl) (Ym (iV (wa .i64 g 1)) e0 (wN ?_)))))))
  cases c
  exact a0 _ _ _ rfl ⟨_, _, _, rfl, rfl, o, r, C, rfl, ((b.k11).facts (allT allI))⟩
 ·refine wp_exit (a4 _ _ _ rfl ?_)
  cases c
  exact a1 _ _ _ _ rfl rfl (V _ _ _ r (b.k12) (Z _ rfl))
theorem matching_full_ok {j h : Int} {out : LI} (i : matching_full j h = some out) (b : St w0 ros rs w) :
  Calls Tryz.prog 76 #[iV j, iV h] w (fun e w => ∃ (o : Hdr), e = .returned (o.v) ∧ St w0 ros (row 3 I1 o.v out :: rs) w) := by
 refine enterQ Tryz.func76 rfl Tryz.ntmps76 rfl fun Q t => sR fun _ u => Ya hnil.v rfl (wK u (sR fun _ x => Ym (iV j) e0 (bE i fun y z i => yH (rMk b SL_22 e0 z) fun c w b => Ya c.v e0 (wN ?_))))
 refine x _ _ (sQ fun _ A => sR fun _ B => Ym c.v e0 (yY (yLen SL_22 e0 b rO0) (Ym (iV 0) rfl (wK B (blockQ fun C D => bE i fun E F i => ?_)))))
 have G : ∀ (k : LI) (f : FV) w, f 5 = c.v → St w0 ros (row 3 I1 c.v k :: rs) w → k = E → C (.exit 0) (fr 20 f) w := by
  intro k f w H b ho
  subst ho
  refine D _ _ _ (A _ _ (sR fun _ I => Ym c.v (eh H) (Ya c.v e0 (wK I (wp_ret ?_)))))
  cases i
  exact t _ _ _ (fin1r Tryz.results76 ⟨rfl, rfl⟩ ⟨_, rfl, b⟩)
 refine loopQ (fun s a w => ∃ (l : LI) (d : Int) (f : FV), (l, d) = s ∧ a = fr 20 f ∧ f 1 = iV h ∧ f 5 = c.v ∧ f 10 = iV (y.length : Int) ∧ f 11 = iV d ∧ St w0 ros (row 3 I1 c.v l :: rs) w) F ⟨_, _, _, rfl, rfl, rfl, rfl, rfl, rfl, b⟩ ?_
 rintro _ _ w W ⟨l, d, f, rfl, rfl, p, m, q, n, b⟩ g J X K L
 refine sR fun _ N => yY (ylss (eh n) (eh q)) (wK N (seqQ fun Z O R => ?_))
 refine cIf e0 g (fun S g => ?_) fun S g => ?_
 ·refine wp_skip (O _ _ (sQ fun _ T => blockQ fun _ U => sR fun _ V => Ym (iV d) (eh n) (Ya (iV d) e0 (wK V (wR (Ym c.v (eh m) (Ym (iV d) e0 (Ym (iV h) (eh p) ?_))))))))
  refine bE g fun a0 r g => yY (yIs SL_22 e0 e0 b rO0 r) (yT (r_sti (cs := [iV h]) b O_3 rfl e0 e0 rfl mkI r) fun w b => wN (U _ _ _ (T _ _ (wR (yY (yadd (eh n) rfl) (Ym (iV (wa .i64 d 1)) e0 (wN ?_)))))))
  cases g
  exact K _ _ _ rfl ⟨_, _, _, rfl, rfl, p, m, q, rfl, b⟩
 ·refine wp_exit (R _ _ _ rfl ?_)
  cases g
  exact L _ _ _ _ rfl rfl (G _ _ _ m b (J _ rfl))
end Go.Proofs.YtgnfkbaghjmgiaaGreatDoor
