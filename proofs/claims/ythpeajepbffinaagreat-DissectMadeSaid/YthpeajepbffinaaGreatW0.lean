/- Walks: each function computes its model, printed. -/
import Derived.Test.YthpeajepbffinaaGreatTy
import Derived.Test.YthpeajepbffinaaGreatM6
import Derived.Test.YthpeajepbffinaaGreatSxS
namespace Go.Proofs.YthpeajepbffinaaGreat
open Go Sx M
set_option maxRecDepth 100000
set_option maxHeartbeats 4000000
set_option linter.unusedVariables false
attribute [local irreducible] wpList Code.wp Calls DR QR QS LA LS St
abbrev wR := @wp_region_lit
theorem e0 {n t : Nat} {f : Nat → Value} (ht : Nat.blt t n = true) : (fr n f).eval (.tmp t) = f t := et ht rfl
theorem dT {p : Prop} [Decidable p] (h : p) : decide p = true := decide_eq_true h
theorem dF {p : Prop} [Decidable p] (h : ¬ p) : decide p = false := decide_eq_false h
abbrev iV (n : Int) : Value := .int .i64 n
abbrev wN := @wpList_nil
abbrev pB (b : Nat) : Value := .pointer (some ⟨b, 0, none⟩)
variable {w0 : World} {ros : List Fact} {rs : List Res} {w : World}
theorem graph_ascending_ok {x1 : List Int} {x3 : Int} {h2 : Hdr} {out : Bool} (hM : graph_ascending x1 x3 = some out) (q1 : imm (rI .i64) h2.v x1 ∈ ros) (hst : St w0 ros (rs) w) :
  Calls Tryz.prog 81 #[h2.v, iV x3] w (fun e w => e = .returned (.bool out) ∧ St w0 (ros) (rs) w) := by
 refine enterQ Tryz.func81 rfl Tryz.ntmps81 rfl fun Q hQ => seqQ fun Q1 k1 z1 => wR (Y wn rfl (ya (v := .bool false) rfl) (wN (k1 _ _ (seqQ fun Q2 k2 z2 => wR (Y wn rfl (ya (v := iV (-1)) rfl) (wN (k2 _ _ (seqQ fun Q3 k3 z3 => seqQ fun Q4 k4 z4 => wR ?_))))))))
 refine Y wn rfl (ym (v := h2.v) (e0 rfl)) (Y wn rfl (yLen SL_22 (e0 rfl) hst (rdI q1)) (Y wn rfl (ym (v := iV 0) rfl) (wN (k4 _ _ (blockQ fun Q5 qb5 => ?_)))))
 obtain ⟨o3, go3, hM⟩ := bs hM
 have je3_0 : ∀ (f : Nat → Value) (w : World), St w0 (ros) (rs) w → .inl () = o3 → Q5 (.exit 0) (fr 24 f) w := by
  intro f w hst ho
  subst ho
  refine qb5 _ _ _ (k3 _ _ (seqQ fun Q22 k22 z22 => wR (Y wn rfl (ya (v := .bool true) rfl) (wN (k22 _ _ (wp_ret ?_))))))
  obtain rfl := someI hM
  exact hQ _ _ _ (fin1r Tryz.results81 ⟨rfl, rfl⟩ ⟨rfl, hst⟩)
 have je3_1 : ∀ (f : Nat → Value) (w : World), f 4 = .bool false → St w0 (ros) (rs) w → .inr () = o3 → Q5 .ret (fr 24 f) w := by
  intro f w eje3_1_4 hst ho
  subst ho
  refine qb5 _ _ _ (z3 _ _ _ rfl ?_)
  obtain rfl := someI hM
  exact hQ _ _ _ (fin1r Tryz.results81 ⟨rfl, eje3_1_4⟩ ⟨rfl, hst⟩)
 refine loopQ (fun s a w => ∃ (x9 : Int) (x10 : Int) (f : Nat → Value), (x9, x10) = s ∧ a = fr 24 f ∧ f 1 = iV x3 ∧ f 5 = iV x9 ∧ f 8 = h2.v ∧ f 9 = iV (x1.length : Int) ∧ f 10 = iV x10 ∧ St w0 (ros) (rs) w) go3 ⟨_, _, _, rfl, rfl, rfl, rfl, rfl, rfl, rfl, hst⟩ ?_
 rintro _ _ w r3_ ⟨x9, x10, f, rfl, rfl, e3_1, e3_5, e3_8, e3_9, e3_10, hst⟩ hM3 ho3 Q100003 n3 zz3
 refine seqQ fun Q23 k23 z23 => wR (Y wn rfl (ylss (et rfl e3_10) (et rfl e3_9)) (wN (k23 _ _ (seqQ fun Q24 k24 z24 => ?_))))
 rcases iteS hM3 with ⟨c18, hM3⟩ | ⟨c18, hM3⟩
 ·refine condT (e0 rfl) (dT c18) (wp_skip (k24 _ _ (seqQ fun Q25 k25 z25 => blockQ fun Q26 qb26 => seqQ fun Q27 k27 z27 => wR ?_)))
  obtain ⟨x19, gx19, hM3⟩ := bs hM3
  refine Y wn rfl (yIa SL_22 (et rfl e3_8) (et rfl e3_10) hst (rdI q1) gx19) (Y wn rfl (yI O_3 (e0 rfl) hst (rdI q1) gx19) (Y wn rfl (ya (v := iV x19) (e0 rfl)) (wN (k27 _ _ (seqQ fun Q28 k28 z28 => seqQ fun Q29 k29 z29 => wR (Y wn rfl (ym (v := iV x19) (e0 rfl)) (Y wn rfl (ym (v := iV x9) (et rfl e3_5)) (Y wn rfl (yleq (e0 rfl) (e0 rfl)) (Y wn rfl (ym (v := .bool (decide (x19 ≤ x9))) (e0 rfl)) ?_)))))))))
  refine joinW 4 (fun f w => f 1 = iV x3 ∧ f 7 = iV x19 ∧ f 8 = h2.v ∧ f 9 = iV (x1.length : Int) ∧ f 10 = iV x10 ∧ f 21 = .bool ((decide (x19 ≤ x9)) || (decide (x3 ≤ x19))) ∧ St w0 (ros) (rs) w) (fun j4 => ?_) ?_
  ·rcases Bool.eq_false_or_eq_true (decide (x19 ≤ x9)) with c21 | c21
   ·exact Gn (wx rfl rfl rfl c21) rfl (Gn (wx rfl rfl rfl c21) rfl (Gn (wx rfl rfl rfl c21) rfl (Y wn rfl (ypt (v := .bool true) (e0 rfl) c21 rfl) (j4 _ _ ⟨e3_1, rfl, e3_8, e3_9, e3_10, (congrArg Value.bool (orT c21)), hst⟩))))
   ·exact Y (wg rfl rfl rfl c21) rfl (ym (v := iV x19) (e0 rfl)) (Y (wg rfl rfl rfl c21) rfl (ym (v := iV x3) (et rfl e3_1)) (Y (wg rfl rfl rfl c21) rfl (ygeq (e0 rfl) (e0 rfl)) (Y wn rfl (ypf (v := .bool (decide (x3 ≤ x19))) (e0 rfl) c21 (e0 rfl)) (j4 _ _ ⟨e3_1, rfl, e3_8, e3_9, e3_10, (congrArg Value.bool (orF c21)), hst⟩))))
  rintro f w ⟨e20_1, e20_7, e20_8, e20_9, e20_10, e20_21, hst⟩
  refine wN (k29 _ _ ?_)
  rcases iteS hM3 with ⟨c22, hM3⟩ | ⟨c22, hM3⟩
  ·refine condT (et rfl e20_21) c22 (seqQ fun Q30 k30 z30 => wR (Y wn rfl (ya (v := .bool false) rfl) (wN (k30 _ _ (wp_ret (z28 _ _ _ rfl (qb26 _ _ _ (z25 _ _ _ rfl ?_))))))))
   obtain rfl := someI hM3
   exact zz3 _ _ _ _ rfl rfl (je3_1 _ _ rfl hst (ho3 _ rfl))
  ·refine condF (et rfl e20_21) (bfalse c22) (wp_skip (k28 _ _ (wR (Y wn rfl (ym (v := iV x19) (et rfl e20_7)) (Y wn rfl (ya (v := iV x19) (e0 rfl)) (wN (qb26 _ _ _ (k25 _ _ (wR (Y wn rfl (yadd (et rfl e20_10) rfl) (Y wn rfl (ym (v := iV (wa .i64 x10 1)) (e0 rfl)) (wN ?_))))))))))))
   obtain rfl := someI hM3
   exact n3 _ _ _ rfl ⟨_, _, _, rfl, rfl, e20_1, rfl, e20_8, e20_9, rfl, hst⟩
 ·refine condF (e0 rfl) (dF c18) (wp_exit (z24 _ _ _ rfl ?_))
  obtain rfl := someI hM3
  exact zz3 _ _ _ _ rfl rfl (je3_0 _ _ hst (ho3 _ rfl))

theorem cmp_isNaN_int_ok {x1 : Int} {out : Bool} (hM : cmp_isNaN_int x1 = some out) (hst : St w0 ros (rs) w) :
  Calls Tryz.prog 120 #[iV x1] w (fun e w => e = .returned (.bool out) ∧ St w0 (ros) (rs) w) := by
 refine enterQ Tryz.func120 rfl Tryz.ntmps120 rfl fun Q hQ => seqQ fun Q1 k1 z1 => wR (Y wn rfl (ya (v := .bool false) rfl) (wN (k1 _ _ (seqQ fun Q2 k2 z2 => wR (Y wn rfl (ym (v := iV x1) (e0 rfl)) (Y wn rfl (ym (v := iV x1) (e0 rfl)) (Y wn rfl (yneq (e0 rfl) (e0 rfl)) (Y wn rfl (ya (v := .bool (!(decide (x1 = x1)))) (e0 rfl)) (wN (k2 _ _ ?_))))))))))
 refine wp_ret ?_
 obtain rfl := someI hM
 exact hQ _ _ _ (fin1r Tryz.results120 ⟨rfl, rfl⟩ ⟨rfl, hst⟩)

theorem cmp_Less_int_ok {x1 : Int} {x2 : Int} {out : Bool} (hM : cmp_Less_int x1 x2 = some out) (hst : St w0 ros (rs) w) :
  Calls Tryz.prog 101 #[iV x1, iV x2] w (fun e w => e = .returned (.bool out) ∧ St w0 (ros) (rs) w) := by
 refine enterQ Tryz.func101 rfl Tryz.ntmps101 rfl fun Q hQ => seqQ fun Q1 k1 z1 => wR (Y wn rfl (ya (v := .bool false) rfl) (wN (k1 _ _ (seqQ fun Q2 k2 z2 => wR (Y wn rfl (ym (v := iV x1) (e0 rfl)) ?_)))))
 obtain ⟨r3, gr3, hM⟩ := bs hM
 refine Yc wn rfl (yCall FN_120 (a1 (e0 rfl))) (cmp_isNaN_int_ok (hM := gr3) (hst := hst) ) ?_
 rintro _ w ⟨rfl, hst⟩
 refine ⟨_, rfl, ?_⟩
 refine Y wn rfl (ym (v := .bool r3) (e0 rfl)) ?_
 obtain ⟨r5, gr5, hM⟩ := bs hM
 refine joinW 4 (fun f w => f 0 = iV x1 ∧ f 1 = iV x2 ∧ f 11 = .bool r5 ∧ St w0 (ros) (rs) w) (fun j1 => ?_) ?_
 ·rcases iteS gr5 with ⟨c7, gr5⟩ | ⟨c7, gr5⟩
  ·refine Y (wg rfl rfl rfl c7) rfl (ym (v := iV x2) (e0 rfl)) ?_
   obtain ⟨r8, gr8, gr5⟩ := bs gr5
   refine Yc (wg rfl rfl rfl c7) rfl (yCall FN_120 (a1 (e0 rfl))) (cmp_isNaN_int_ok (hM := gr8) (hst := hst) ) ?_
   rintro _ w ⟨rfl, hst⟩
   refine ⟨_, rfl, ?_⟩
   refine Y (wg rfl rfl rfl c7) rfl (ynot (e0 rfl)) (Y wn rfl (ypt (v := .bool (!(r8))) (e0 rfl) c7 (e0 rfl)) ?_)
   obtain rfl := someI gr5
   exact j1 _ _ ⟨rfl, rfl, rfl, hst⟩
  ·refine Gn (wx rfl rfl rfl (bfalse c7)) rfl (Gn (wx rfl rfl rfl (bfalse c7)) rfl (Gn (wx rfl rfl rfl (bfalse c7)) rfl (Y wn rfl (ypf (v := .bool false) (e0 rfl) (bfalse c7) rfl) ?_)))
   obtain rfl := someI gr5
   exact j1 _ _ ⟨rfl, rfl, rfl, hst⟩
 rintro f w ⟨e6_0, e6_1, e6_11, hst⟩
 refine Y wn rfl (ym (v := .bool r5) (et rfl e6_11)) ?_
 refine joinW 4 (fun f w => f 16 = .bool (r5 || (decide (x1 < x2))) ∧ St w0 (ros) (rs) w) (fun j2 => ?_) ?_
 ·rcases Bool.eq_false_or_eq_true (r5) with c10 | c10
  ·exact Gn (wx rfl rfl rfl c10) rfl (Gn (wx rfl rfl rfl c10) rfl (Gn (wx rfl rfl rfl c10) rfl (Y wn rfl (ypt (v := .bool true) (e0 rfl) c10 rfl) (j2 _ _ ⟨(congrArg Value.bool (orT c10)), hst⟩))))
  ·exact Y (wg rfl rfl rfl c10) rfl (ym (v := iV x1) (et rfl e6_0)) (Y (wg rfl rfl rfl c10) rfl (ym (v := iV x2) (et rfl e6_1)) (Y (wg rfl rfl rfl c10) rfl (ylss (e0 rfl) (e0 rfl)) (Y wn rfl (ypf (v := .bool (decide (x1 < x2))) (e0 rfl) c10 (e0 rfl)) (j2 _ _ ⟨(congrArg Value.bool (orF c10)), hst⟩))))
 rintro f w ⟨e9_16, hst⟩
 refine Y wn rfl (ya (v := .bool (r5 || (decide (x1 < x2)))) (et rfl e9_16)) (wN (k2 _ _ (wp_ret ?_)))
 obtain rfl := someI hM
 exact hQ _ _ _ (fin1r Tryz.results101 ⟨rfl, rfl⟩ ⟨rfl, hst⟩)

theorem slices_isNaN_int_ok {x1 : Int} {out : Bool} (hM : slices_isNaN_int x1 = some out) (hst : St w0 ros (rs) w) :
  Calls Tryz.prog 102 #[iV x1] w (fun e w => e = .returned (.bool out) ∧ St w0 (ros) (rs) w) := by
 refine enterQ Tryz.func102 rfl Tryz.ntmps102 rfl fun Q hQ => seqQ fun Q1 k1 z1 => wR (Y wn rfl (ya (v := .bool false) rfl) (wN (k1 _ _ (seqQ fun Q2 k2 z2 => wR (Y wn rfl (ym (v := iV x1) (e0 rfl)) (Y wn rfl (ym (v := iV x1) (e0 rfl)) (Y wn rfl (yneq (e0 rfl) (e0 rfl)) (Y wn rfl (ya (v := .bool (!(decide (x1 = x1)))) (e0 rfl)) (wN (k2 _ _ ?_))))))))))
 refine wp_ret ?_
 obtain rfl := someI hM
 exact hQ _ _ _ (fin1r Tryz.results102 ⟨rfl, rfl⟩ ⟨rfl, hst⟩)

theorem slices_BinarySearch_int_ok {x1 : List Int} {x3 : Int} {h2 : Hdr} {out : Int × Bool} (hM : slices_BinarySearch_int x1 x3 = some out) (q1 : imm (rI .i64) h2.v x1 ∈ ros) (hst : St w0 ros (rs) w) :
  Calls Tryz.prog 84 #[h2.v, iV x3] w (fun e w => e = .returned (.tuple #[iV out.1, .bool out.2]) ∧ St w0 (ros) (rs) w) := by
 refine enterQ Tryz.func84 rfl Tryz.ntmps84 rfl fun Q hQ => seqQ fun Q1 k1 z1 => wR (Y wn rfl (ya (v := iV 0) rfl) (Y wn rfl (ya (v := .bool false) rfl) (wN (k1 _ _ (seqQ fun Q2 k2 z2 => wR (Y wn rfl (ym (v := h2.v) (e0 rfl)) (Y wn rfl (yLen SL_22 (e0 rfl) hst (rdI q1)) (Y wn rfl (ya (v := iV (x1.length : Int)) (e0 rfl)) (wN (k2 _ _ ?_))))))))))
 refine seqQ fun Q3 k3 z3 => wR (Y wn rfl (ym (v := iV (x1.length : Int)) (e0 rfl)) (Y wn rfl (ya (v := iV 0) rfl) (Y wn rfl (ya (v := iV (x1.length : Int)) (e0 rfl)) (wN (k3 _ _ (seqQ fun Q4 k4 z4 => blockQ fun Q5 qb5 => ?_))))))
 obtain ⟨o3, go3, hM⟩ := bs hM
 have je3_0 : ∀ (x20 : Int) (f : Nat → Value) (w : World), f 0 = h2.v → f 1 = iV x3 → f 6 = iV (x1.length : Int) → f 7 = iV x20 → St w0 (ros) (rs) w → x20 = o3 → Q5 (.exit 0) (fr 54 f) w := by
  intro x20 f w eje3_0_0 eje3_0_1 eje3_0_6 eje3_0_7 hst ho
  subst ho
  refine qb5 _ _ _ (k4 _ _ (seqQ fun Q16 k16 z16 => wR (Y wn rfl (ym (v := iV x20) (et rfl eje3_0_7)) (Y wn rfl (ym (v := iV x20) (et rfl eje3_0_7)) (Y wn rfl (ym (v := iV (x1.length : Int)) (et rfl eje3_0_6)) (Y wn rfl (ylss (e0 rfl) (e0 rfl)) (Y wn rfl (ym (v := .bool (decide (x20 < (x1.length : Int)))) (e0 rfl)) ?_)))))))
  obtain ⟨r39, gr39, hM⟩ := bs hM
  refine joinW 18 (fun f w => f 31 = iV x20 ∧ f 53 = .bool r39 ∧ St w0 (ros) (rs) w) (fun j7 => ?_) ?_
  ·rcases iteS gr39 with ⟨c41, gr39⟩ | ⟨c41, gr39⟩
   ·refine Y (wg rfl rfl rfl (dT c41)) rfl (ym (v := h2.v) (et rfl eje3_0_0)) (Y (wg rfl rfl rfl (dT c41)) rfl (ym (v := iV x20) (et rfl eje3_0_7)) ?_)
    obtain ⟨x42, gx42, gr39⟩ := bs gr39
    refine Y (wg rfl rfl rfl (dT c41)) rfl (yIa SL_22 (e0 rfl) (e0 rfl) hst (rdI q1) gx42) (Y (wg rfl rfl rfl (dT c41)) rfl (yI O_3 (e0 rfl) hst (rdI q1) gx42) (Y (wg rfl rfl rfl (dT c41)) rfl (ym (v := iV x3) (et rfl eje3_0_1)) (Y (wg rfl rfl rfl (dT c41)) rfl (yeql (e0 rfl) (e0 rfl)) (Y (wg rfl rfl rfl (dT c41)) rfl (ym (v := .bool (decide (x42 = x3))) (e0 rfl)) ?_))))
    obtain ⟨r50, gr50, gr39⟩ := bs gr39
    refine joinW 10 (fun f w => f 31 = iV x20 ∧ f 35 = .bool (decide (x20 < (x1.length : Int))) ∧ f 52 = .bool r50 ∧ St w0 (ros) (rs) w) (fun j9 => ?_) ?_
    ·rcases iteS gr50 with ⟨c52, gr50⟩ | ⟨c52, gr50⟩
     ·refine Gn (wx rfl rfl rfl (dT c52)) rfl (Gn (wx rfl rfl rfl (dT c52)) rfl (Gn (wx rfl rfl rfl (dT c52)) rfl (Gn (wx rfl rfl rfl (dT c52)) rfl (Gn (wx rfl rfl rfl (dT c52)) rfl (Gn (wx rfl rfl rfl (dT c52)) rfl (Gn (wxu rfl rfl rfl) rfl (Gn (wxu rfl rfl rfl) rfl (Gn (wx rfl rfl rfl (dT c52)) rfl (Y (wg rfl rfl rfl (dT c41)) rfl (ypt (v := .bool true) (e0 rfl) (dT c52) rfl) ?_)))))))))
      obtain rfl := someI gr50
      exact j9 _ _ ⟨rfl, rfl, rfl, hst⟩
     ·refine Y (wg rfl rfl rfl (dF c52)) rfl (ym (v := h2.v) (et rfl eje3_0_0)) (Y (wg rfl rfl rfl (dF c52)) rfl (ym (v := iV x20) (et rfl eje3_0_7)) ?_)
      obtain ⟨x53, gx53, gr50⟩ := bs gr50
      refine Y (wg rfl rfl rfl (dF c52)) rfl (yIa SL_22 (e0 rfl) (e0 rfl) hst (rdI q1) gx53) (Y (wg rfl rfl rfl (dF c52)) rfl (yI O_3 (e0 rfl) hst (rdI q1) gx53) ?_)
      obtain ⟨r54, gr54, gr50⟩ := bs gr50
      refine Yc (wg rfl rfl rfl (dF c52)) rfl (yCall FN_102 (a1 (e0 rfl))) (slices_isNaN_int_ok (hM := gr54) (hst := hst) ) ?_
      rintro _ w ⟨rfl, hst⟩
      refine ⟨_, rfl, ?_⟩
      refine Y (wg rfl rfl rfl (dF c52)) rfl (ym (v := .bool r54) (e0 rfl)) ?_
      obtain ⟨r56, gr56, gr50⟩ := bs gr50
      refine joinW 3 (fun f w => f 31 = iV x20 ∧ f 35 = .bool (decide (x20 < (x1.length : Int))) ∧ f 42 = .bool (decide (x42 = x3)) ∧ f 51 = .bool r56 ∧ St w0 (ros) (rs) w) (fun j10 => ?_) ?_
      ·rcases iteS gr56 with ⟨c58, gr56⟩ | ⟨c58, gr56⟩
       ·refine Y (wg rfl rfl rfl c58) rfl (ym (v := iV x3) (et rfl eje3_0_1)) ?_
        obtain ⟨r59, gr59, gr56⟩ := bs gr56
        refine Yc (wg rfl rfl rfl c58) rfl (yCall FN_102 (a1 (e0 rfl))) (slices_isNaN_int_ok (hM := gr59) (hst := hst) ) ?_
        rintro _ w ⟨rfl, hst⟩
        refine ⟨_, rfl, ?_⟩
        refine Y (wg rfl rfl rfl (dF c52)) rfl (ypt (v := .bool r59) (e0 rfl) c58 (e0 rfl)) ?_
        obtain rfl := someI gr56
        exact j10 _ _ ⟨rfl, rfl, rfl, rfl, hst⟩
       ·refine Gn (wx rfl rfl rfl (bfalse c58)) rfl (Gn (wx rfl rfl rfl (bfalse c58)) rfl (Y (wg rfl rfl rfl (dF c52)) rfl (ypf (v := .bool false) (e0 rfl) (bfalse c58) rfl) ?_))
        obtain rfl := someI gr56
        exact j10 _ _ ⟨rfl, rfl, rfl, rfl, hst⟩
      rintro f w ⟨e57_31, e57_35, e57_42, e57_51, hst⟩
      refine Y (wg rfl rfl e57_35 (dT c41)) rfl (ypf (v := .bool r56) (et rfl e57_42) (dF c52) (et rfl e57_51)) ?_
      obtain rfl := someI gr50
      exact j9 _ _ ⟨e57_31, e57_35, rfl, hst⟩
    rintro f w ⟨e51_31, e51_35, e51_52, hst⟩
    refine Y wn rfl (ypt (v := .bool r50) (et rfl e51_35) (dT c41) (et rfl e51_52)) ?_
    obtain rfl := someI gr39
    exact j7 _ _ ⟨e51_31, rfl, hst⟩
   ·refine Gn (wx rfl rfl rfl (dF c41)) rfl (Gn (wx rfl rfl rfl (dF c41)) rfl (Gn (wx rfl rfl rfl (dF c41)) rfl (Gn (wx rfl rfl rfl (dF c41)) rfl (Gn (wx rfl rfl rfl (dF c41)) rfl (Gn (wx rfl rfl rfl (dF c41)) rfl (Gn (wx rfl rfl rfl (dF c41)) rfl (Gn (wxu rfl rfl rfl) rfl (Gn (wxu rfl rfl rfl) rfl (Gn (wxu rfl rfl rfl) rfl (Gn (wxu rfl rfl rfl) rfl (Gn (wxu rfl rfl rfl) rfl (Gn (wxu rfl rfl rfl) rfl (Gn (wxu rfl rfl rfl) rfl ?_)))))))))))))
    refine Gn (wxu rfl rfl rfl) rfl (Gn (wxu rfl rfl rfl) rfl (Gn (wx rfl rfl rfl (dF c41)) rfl (Y wn rfl (ypf (v := .bool false) (e0 rfl) (dF c41) rfl) ?_)))
    obtain rfl := someI gr39
    exact j7 _ _ ⟨rfl, rfl, hst⟩
  rintro f w ⟨e40_31, e40_53, hst⟩
  refine Y wn rfl (ya (v := iV x20) (et rfl e40_31)) (Y wn rfl (ya (v := .bool r39) (et rfl e40_53)) (wN (k16 _ _ (wp_ret ?_))))
  obtain rfl := someI hM
  exact hQ _ _ _ (fin2r Tryz.results84 ⟨rfl, rfl⟩ ⟨rfl, rfl⟩ ⟨rfl, hst⟩)
 refine loopQ (fun s a w => ∃ (x10 : Int) (x11 : Int) (f : Nat → Value), (x10, x11) = s ∧ a = fr 54 f ∧ f 0 = h2.v ∧ f 1 = iV x3 ∧ f 6 = iV (x1.length : Int) ∧ f 7 = iV x10 ∧ f 8 = iV x11 ∧ St w0 (ros) (rs) w) go3 ⟨_, _, _, rfl, rfl, rfl, rfl, rfl, rfl, rfl, hst⟩ ?_
 rintro _ _ w r3_ ⟨x10, x11, f, rfl, rfl, e3_0, e3_1, e3_6, e3_7, e3_8, hst⟩ hM3 ho3 Q100003 n3 zz3
 refine seqQ fun Q17 k17 z17 => seqQ fun Q18 k18 z18 => wR (Y wn rfl (ym (v := iV x10) (et rfl e3_7)) (Y wn rfl (ym (v := iV x11) (et rfl e3_8)) (Y wn rfl (ylss (e0 rfl) (e0 rfl)) (wN (k18 _ _ ?_)))))
 rcases iteS hM3 with ⟨c60, hM3⟩ | ⟨c60, hM3⟩
 ·refine condT (e0 rfl) (dT c60) (wp_skip (k17 _ _ (blockQ fun Q19 qb19 => seqQ fun Q20 k20 z20 => wR (Y wn rfl (ym (v := iV x10) (et rfl e3_7)) (Y wn rfl (ym (v := iV x11) (et rfl e3_8)) (Y wn rfl (yadd (e0 rfl) (e0 rfl)) (Y wn rfl (ycv (k' := .u64) (by kernel_rfl) (by kernel_rfl) (e0 rfl)) (Y wn rfl (yshrc (e0 rfl) rfl) (Y wn rfl (ycv (k' := .i64) (by kernel_rfl) (by kernel_rfl) (e0 rfl)) (Y wn rfl (ya (v := iV (wc .i64 (wsrc .u64 (wc .u64 (wa .i64 x10 x11)) 1))) (e0 rfl)) (wN ?_)))))))))))
  refine k20 _ _ (seqQ fun Q21 k21 z21 => wR (Y wn rfl (ym (v := h2.v) (et rfl e3_0)) (Y wn rfl (ym (v := iV (wc .i64 (wsrc .u64 (wc .u64 (wa .i64 x10 x11)) 1))) (e0 rfl)) ?_)))
  obtain ⟨x61, gx61, hM3⟩ := bs hM3
  refine Y wn rfl (yIa SL_22 (e0 rfl) (e0 rfl) hst (rdI q1) gx61) (Y wn rfl (yI O_3 (e0 rfl) hst (rdI q1) gx61) (Y wn rfl (ym (v := iV x3) (et rfl e3_1)) ?_))
  obtain ⟨r62, gr62, hM3⟩ := bs hM3
  refine Yc wn rfl (yCall FN_101 (a2 (e0 rfl) (e0 rfl))) (cmp_Less_int_ok (hM := gr62) (hst := hst) ) ?_
  rintro _ w ⟨rfl, hst⟩
  refine ⟨_, rfl, ?_⟩
  refine wN (k21 _ _ ?_)
  have j11 : ∀ (x63 : Int) (x64 : Int) (f : Nat → Value) (w : World), f 0 = h2.v → f 1 = iV x3 → f 6 = iV (x1.length : Int) → f 7 = iV x63 → f 8 = iV x64 → St w0 (ros) (rs) w → slices_BinarySearch_int_j11 x63 x64 = some r3_ → Q19 .normal (fr 54 f) w := by
   intro x63 x64 f w ej11_0 ej11_1 ej11_6 ej11_7 ej11_8 hst hM
   refine qb19 _ _ _ ?_
   obtain rfl := someI hM
   exact n3 _ _ _ rfl ⟨_, _, _, rfl, rfl, ej11_0, ej11_1, ej11_6, ej11_7, ej11_8, hst⟩
  rcases iteS hM3 with ⟨c65, hM3⟩ | ⟨c65, hM3⟩
  ·exact condT (e0 rfl) c65 (wR (Y wn rfl (ym (v := iV (wc .i64 (wsrc .u64 (wc .u64 (wa .i64 x10 x11)) 1))) (e0 rfl)) (Y wn rfl (yadd (e0 rfl) rfl) (Y wn rfl (ya (v := iV (wa .i64 (wc .i64 (wsrc .u64 (wc .u64 (wa .i64 x10 x11)) 1)) 1)) (e0 rfl)) (wN (j11 _ _ _ _ e3_0 e3_1 e3_6 rfl e3_8 hst hM3))))))
  ·exact condF (e0 rfl) (bfalse c65) (wR (Y wn rfl (ym (v := iV (wc .i64 (wsrc .u64 (wc .u64 (wa .i64 x10 x11)) 1))) (e0 rfl)) (Y wn rfl (ya (v := iV (wc .i64 (wsrc .u64 (wc .u64 (wa .i64 x10 x11)) 1))) (e0 rfl)) (wN (j11 _ _ _ _ e3_0 e3_1 e3_6 e3_7 rfl hst hM3)))))
 ·refine condF (e0 rfl) (dF c60) (wp_exit (z17 _ _ _ rfl ?_))
  obtain rfl := someI hM3
  exact zz3 _ _ _ _ rfl rfl (je3_0 _ _ _ e3_0 e3_1 e3_6 e3_7 hst (ho3 _ rfl))

theorem graph_joined_ok {x1 : List (List Int)} {x3 : Int} {x4 : Int} {h2 : Hdr} {out : Bool} (hM : graph_joined x1 x3 x4 = some out) (q1 : imm (rS (rI .i64)) h2.v x1 ∈ ros) (hst : St w0 ros (rs) w) :
  Calls Tryz.prog 82 #[.agg #[h2.v], iV x3, iV x4] w (fun e w => e = .returned (.bool out) ∧ St w0 (ros) (rs) w) := by
 refine enterQ Tryz.func82 rfl Tryz.ntmps82 rfl fun Q hQ => seqQ fun Q1 k1 z1 => wR (YB wn rfl (r_box (vals := [h2.v]) hst (e0 rfl) rfl) ?_)
 intro b5 w hst
 refine Y wn rfl (ya (v := .bool false) rfl) (wN (k1 _ _ (seqQ fun Q2 k2 z2 => wR (Y wn rfl (yFb FL_26_0 (e0 rfl)) (Y wn rfl (yLb (u := h2.v) O_24 (e0 rfl) hst mhR rfl) (Y wn rfl (ym (v := iV x3) (e0 rfl)) ?_))))))
 obtain ⟨x6, gx6, hM⟩ := bs hM
 refine Y wn rfl (yIa SL_24 (e0 rfl) (e0 rfl) hst (rdI q1) gx6) ?_
 obtain ⟨h7, hst⟩ := iLs hst q1 gx6
 refine Y wn rfl (yCt O_22 (e0 rfl) hst (mtF mhF) rfl) (Y wn rfl (ym (v := iV x4) (e0 rfl)) ?_)
 obtain ⟨r8, gr8, hM⟩ := bs hM
 refine Yc wn rfl (yCall FN_84 (a2 (e0 rfl) (e0 rfl))) (slices_BinarySearch_int_ok (hM := gr8) (hst := hst) (q1 := mhF)) ?_
 rintro _ w ⟨rfl, hst⟩
 refine ⟨_, rfl, ?_⟩
 refine Y wn rfl (ym (v := .tuple #[iV r8.1, .bool r8.2]) (e0 rfl)) (Y wn rfl (yx (v := iV r8.1) (e0 rfl) rfl) (Y wn rfl (yx (v := .bool r8.2) (e0 rfl) rfl) (Y wn rfl (ya (v := iV r8.1) (e0 rfl)) (Y wn rfl (ya (v := .bool r8.2) (e0 rfl)) (wN (k2 _ _ (seqQ fun Q3 k3 z3 => wR (Y wn rfl (ym (v := .bool r8.2) (e0 rfl)) (Y wn rfl (ya (v := .bool r8.2) (e0 rfl)) (wN (k3 _ _ (wp_ret ?_))))))))))))
 obtain rfl := someI hM
 exact hQ _ _ _ (fin1r Tryz.results82 ⟨rfl, rfl⟩ ⟨rfl, ((hst.pk 1 [] rfl).facts (allT (allT allI)))⟩)

theorem graph_Check_ok {x1 : List (List Int)} {h2 : Hdr} {out : Int} (hM : graph_Check x1 = some out) (q1 : imm (rS (rI .i64)) h2.v x1 ∈ ros) (hst : St w0 ros (rs) w) :
  Calls Tryz.prog 51 #[.agg #[h2.v]] w (fun e w => e = .returned (iV out) ∧ St w0 (ros) (rs) w) := by
 refine enterQ Tryz.func51 rfl Tryz.ntmps51 rfl fun Q hQ => seqQ fun Q1 k1 z1 => wR (YB wn rfl (r_box (vals := [h2.v]) hst (e0 rfl) rfl) ?_)
 intro b3 w hst
 refine Y wn rfl (ya (v := iV 0) rfl) (wN (k1 _ _ (seqQ fun Q2 k2 z2 => wR (Y wn rfl (yFb FL_26_0 (e0 rfl)) (Y wn rfl (yLb (u := h2.v) O_24 (e0 rfl) hst mhR rfl) (Y wn rfl (yLen SL_24 (e0 rfl) hst (rdI q1)) (Y wn rfl (ya (v := iV (x1.length : Int)) (e0 rfl)) (wN (k2 _ _ (seqQ fun Q3 k3 z3 => seqQ fun Q4 k4 z4 => wR ?_))))))))))
 refine Y wn rfl (ym (v := iV (x1.length : Int)) (e0 rfl)) (Y wn rfl (ygtr (e0 rfl) rfl) (wN (k4 _ _ ?_)))
 rcases iteS hM with ⟨c4, hM⟩ | ⟨c4, hM⟩
 ·refine condT (e0 rfl) (dT c4) (seqQ fun Q5 k5 z5 => wR (Y wn rfl (ya (v := iV 6) rfl) (wN (k5 _ _ (wp_ret (z3 _ _ _ rfl ?_))))))
  obtain rfl := someI hM
  exact hQ _ _ _ (fin1r Tryz.results51 ⟨rfl, rfl⟩ ⟨rfl, (hst.pk 1 [] rfl)⟩)
 ·refine condF (e0 rfl) (dF c4) (wp_skip (k3 _ _ (seqQ fun Q6 k6 z6 => seqQ fun Q7 k7 z7 => wR (Y wn rfl (yFb FL_26_0 (e0 rfl)) (Y wn rfl (yLb (u := h2.v) O_24 (e0 rfl) hst mhR rfl) (Y wn rfl (yLen SL_24 (e0 rfl) hst (rdI q1)) (Y wn rfl (ym (v := iV 0) rfl) (wN (k7 _ _ (blockQ fun Q8 qb8 => ?_))))))))))
  obtain ⟨o3, go3, hM⟩ := bs hM
  have je3_0 : ∀ (f : Nat → Value) (w : World), f 1 = (pB b3) → St w0 (ros) (box b3 26 [h2.v] :: rs) w → .inl () = o3 → Q8 (.exit 0) (fr 55 f) w := by
   intro f w eje3_0_1 hst ho
   subst ho
   refine qb8 _ _ _ (k6 _ _ (seqQ fun Q23 k23 z23 => seqQ fun Q24 k24 z24 => wR (Y wn rfl (yFb FL_26_0 (et rfl eje3_0_1)) (Y wn rfl (yLb (u := h2.v) O_24 (e0 rfl) hst mhR rfl) (Y wn rfl (yLen SL_24 (e0 rfl) hst (rdI q1)) (Y wn rfl (ym (v := iV 0) rfl) (wN (k24 _ _ (blockQ fun Q25 qb25 => ?_)))))))))
   obtain ⟨o6, go6, hM⟩ := bs hM
   have je6_0 : ∀ (f : Nat → Value) (w : World), St w0 (ros) (rs) w → .inl () = o6 → Q25 (.exit 2) (fr 55 f) w := by
    intro f w hst ho
    subst ho
    refine qb25 _ _ _ (k23 _ _ (seqQ fun Q82 k82 z82 => wR (Y wn rfl (ya (v := iV 0) rfl) (wN (k82 _ _ (wp_ret ?_))))))
    obtain rfl := someI hM
    exact hQ _ _ _ (fin1r Tryz.results51 ⟨rfl, rfl⟩ ⟨rfl, hst⟩)
   have je6_1 : ∀ (f : Nat → Value) (w : World), f 2 = iV 1 → St w0 (ros) (rs) w → .inr () = o6 → Q25 .ret (fr 55 f) w := by
    intro f w eje6_1_2 hst ho
    subst ho
    refine qb25 _ _ _ (z23 _ _ _ rfl ?_)
    obtain rfl := someI hM
    exact hQ _ _ _ (fin1r Tryz.results51 ⟨rfl, eje6_1_2⟩ ⟨rfl, hst⟩)
   refine loopQ (fun s a w => ∃ (x44 : Int) (f : Nat → Value), x44 = s ∧ a = fr 55 f ∧ f 1 = (pB b3) ∧ f 35 = h2.v ∧ f 36 = iV (x1.length : Int) ∧ f 37 = iV x44 ∧ St w0 (ros) (box b3 26 [h2.v] :: rs) w) go6 ⟨_, _, rfl, rfl, eje3_0_1, rfl, rfl, rfl, hst⟩ ?_
   rintro _ _ w r6_ ⟨x44, f, rfl, rfl, e6_1, e6_35, e6_36, e6_37, hst⟩ hM6 ho6 Q100006 n6 zz6
   refine seqQ fun Q83 k83 z83 => wR (Y wn rfl (ylss (et rfl e6_37) (et rfl e6_36)) (wN (k83 _ _ (seqQ fun Q84 k84 z84 => ?_))))
   rcases iteS hM6 with ⟨c63, hM6⟩ | ⟨c63, hM6⟩
   ·refine condT (e0 rfl) (dT c63) (wp_skip (k84 _ _ (seqQ fun Q85 k85 z85 => blockQ fun Q86 qb86 => seqQ fun Q87 k87 z87 => wR (Y wn rfl (ym (v := iV x44) (et rfl e6_37)) ?_))))
    obtain ⟨x64, gx64, hM6⟩ := bs hM6
    refine Y wn rfl (yIa SL_24 (et rfl e6_35) (et rfl e6_37) hst (rdI q1) gx64) ?_
    obtain ⟨h65, hst⟩ := iLs hst q1 gx64
    refine Y wn rfl (yCt O_22 (e0 rfl) hst (mtF mhF) rfl) (Y wn rfl (ya (v := iV x44) (e0 rfl)) (Y wn rfl (ya (v := h65.v) (e0 rfl)) (wN (k87 _ _ (seqQ fun Q88 k88 z88 => wR (Y wn rfl (ym (v := h65.v) (e0 rfl)) (Y wn rfl (yLen SL_22 (e0 rfl) hst (rdI mhF)) (Y wn rfl (ym (v := iV 0) rfl) (wN (k88 _ _ (blockQ fun Q89 qb89 => ?_)))))))))))
    obtain ⟨o7, go7, hM6⟩ := bs hM6
    have je7_0 : ∀ (f : Nat → Value) (w : World), f 1 = (pB b3) → f 35 = h2.v → f 36 = iV (x1.length : Int) → f 37 = iV x44 → St w0 (ros) (box b3 26 [h2.v] :: rs) w → .inl () = o7 → Q89 (.exit 4) (fr 55 f) w := by
     intro f w eje7_0_1 eje7_0_35 eje7_0_36 eje7_0_37 hst ho
     subst ho
     refine qb89 _ _ _ (qb86 _ _ _ (k85 _ _ (wR (Y wn rfl (yadd (et rfl eje7_0_37) rfl) (Y wn rfl (ym (v := iV (wa .i64 x44 1)) (e0 rfl)) (wN ?_))))))
     obtain rfl := someI hM6
     exact n6 _ _ _ rfl ⟨_, _, rfl, rfl, eje7_0_1, eje7_0_35, eje7_0_36, rfl, hst⟩
    have je7_1 : ∀ (f : Nat → Value) (w : World), f 2 = iV 1 → St w0 (ros) (rs) w → .inr () = o7 → Q89 .ret (fr 55 f) w := by
     intro f w eje7_1_2 hst ho
     subst ho
     refine qb89 _ _ _ (qb86 _ _ _ (z85 _ _ _ rfl ?_))
     obtain rfl := someI hM6
     exact zz6 _ _ _ _ rfl rfl (je6_1 _ _ eje7_1_2 hst (ho6 _ rfl))
    refine loopQ (fun s a w => ∃ (x70 : Int) (f : Nat → Value), x70 = s ∧ a = fr 55 f ∧ f 1 = (pB b3) ∧ f 6 = iV x44 ∧ f 35 = h2.v ∧ f 36 = iV (x1.length : Int) ∧ f 37 = iV x44 ∧ f 42 = h65.v ∧ f 43 = iV (x64.length : Int) ∧ f 44 = iV x70 ∧ St w0 (imm (rI .i64) h65.v x64 :: ros) (box b3 26 [h2.v] :: rs) w) go7 ⟨_, _, rfl, rfl, e6_1, rfl, e6_35, e6_36, e6_37, rfl, rfl, rfl, (hst.facts (allC mhF (allT (allT allI))))⟩ ?_
    rintro _ _ w r7_ ⟨x70, f, rfl, rfl, e7_1, e7_6, e7_35, e7_36, e7_37, e7_42, e7_43, e7_44, hst⟩ hM7 ho7 Q100007 n7 zz7
    refine seqQ fun Q104 k104 z104 => wR (Y wn rfl (ylss (et rfl e7_44) (et rfl e7_43)) (wN (k104 _ _ (seqQ fun Q105 k105 z105 => ?_))))
    rcases iteS hM7 with ⟨c76, hM7⟩ | ⟨c76, hM7⟩
    ·refine condT (e0 rfl) (dT c76) (wp_skip (k105 _ _ (seqQ fun Q106 k106 z106 => blockQ fun Q107 qb107 => seqQ fun Q108 k108 z108 => wR ?_)))
     obtain ⟨x77, gx77, hM7⟩ := bs hM7
     refine Y wn rfl (yIa SL_22 (et rfl e7_42) (et rfl e7_44) hst (rdI mhF) gx77) (Y wn rfl (yI O_3 (e0 rfl) hst (rdI mhF) gx77) (Y wn rfl (ya (v := iV x77) (e0 rfl)) (wN (k108 _ _ (seqQ fun Q109 k109 z109 => wR (Y wn rfl (yLbs (us := [h2.v]) ST_26 (et rfl e7_1) hst mhR rfl rfl) (Y wn rfl (ym (v := iV x77) (e0 rfl)) (Y wn rfl (ym (v := iV x44) (et rfl e7_6)) ?_))))))))
     obtain ⟨r78, gr78, hM7⟩ := bs hM7
     refine Yc wn rfl (yCall FN_82 (a3 (e0 rfl) (e0 rfl) (e0 rfl))) (graph_joined_ok (hM := gr78) (hst := hst) (q1 := (mtF q1))) ?_
     rintro _ w ⟨rfl, hst⟩
     refine ⟨_, rfl, ?_⟩
     refine Y wn rfl (ynot (e0 rfl)) (wN (k109 _ _ ?_))
     rcases iteS hM7 with ⟨c79, hM7⟩ | ⟨c79, hM7⟩
     ·refine condF (e0 rfl) (nF c79) (wp_skip (qb107 _ _ _ (k106 _ _ (wR (Y wn rfl (yadd (et rfl e7_44) rfl) (Y wn rfl (ym (v := iV (wa .i64 x70 1)) (e0 rfl)) (wN ?_)))))))
      obtain rfl := someI hM7
      exact n7 _ _ _ rfl ⟨_, _, rfl, rfl, e7_1, e7_6, e7_35, e7_36, e7_37, e7_42, e7_43, rfl, hst⟩
     ·refine condT (e0 rfl) (nT (bfalse c79)) (seqQ fun Q110 k110 z110 => wR (Y wn rfl (ya (v := iV 1) rfl) (wN (k110 _ _ (wp_ret (qb107 _ _ _ (z106 _ _ _ rfl ?_)))))))
      obtain rfl := someI hM7
      exact zz7 _ _ _ _ rfl rfl (je7_1 _ _ rfl ((hst.pk 1 [] rfl).facts (allT allI)) (ho7 _ rfl))
    ·refine condF (e0 rfl) (dF c76) (wp_exit (z105 _ _ _ rfl ?_))
     obtain rfl := someI hM7
     exact zz7 _ _ _ _ rfl rfl (je7_0 _ _ e7_1 e7_35 e7_36 e7_37 (hst.facts (allT allI)) (ho7 _ rfl))
   ·refine condF (e0 rfl) (dF c63) (wp_exit (z84 _ _ _ rfl ?_))
    obtain rfl := someI hM6
    exact zz6 _ _ _ _ rfl rfl (je6_0 _ _ (hst.pk 1 [] rfl) (ho6 _ rfl))
  have je3_1 : ∀ (f : Nat → Value) (w : World), f 2 = iV 1 → St w0 (ros) (rs) w → .inr () = o3 → Q8 .ret (fr 55 f) w := by
   intro f w eje3_1_2 hst ho
   subst ho
   refine qb8 _ _ _ (z6 _ _ _ rfl ?_)
   obtain rfl := someI hM
   exact hQ _ _ _ (fin1r Tryz.results51 ⟨rfl, eje3_1_2⟩ ⟨rfl, hst⟩)
  refine loopQ (fun s a w => ∃ (x15 : Int) (f : Nat → Value), x15 = s ∧ a = fr 55 f ∧ f 1 = (pB b3) ∧ f 3 = iV (x1.length : Int) ∧ f 16 = h2.v ∧ f 17 = iV (x1.length : Int) ∧ f 18 = iV x15 ∧ St w0 (ros) (box b3 26 [h2.v] :: rs) w) go3 ⟨_, _, rfl, rfl, rfl, rfl, rfl, rfl, rfl, hst⟩ ?_
  rintro _ _ w r3_ ⟨x15, f, rfl, rfl, e3_1, e3_3, e3_16, e3_17, e3_18, hst⟩ hM3 ho3 Q100003 n3 zz3
  refine seqQ fun Q111 k111 z111 => wR (Y wn rfl (ylss (et rfl e3_18) (et rfl e3_17)) (wN (k111 _ _ (seqQ fun Q112 k112 z112 => ?_))))
  rcases iteS hM3 with ⟨c80, hM3⟩ | ⟨c80, hM3⟩
  ·refine condT (e0 rfl) (dT c80) (wp_skip (k112 _ _ (seqQ fun Q113 k113 z113 => blockQ fun Q114 qb114 => seqQ fun Q115 k115 z115 => wR (Y wn rfl (ym (v := iV x15) (et rfl e3_18)) ?_))))
   obtain ⟨x81, gx81, hM3⟩ := bs hM3
   refine Y wn rfl (yIa SL_24 (et rfl e3_16) (et rfl e3_18) hst (rdI q1) gx81) ?_
   obtain ⟨h82, hst⟩ := iLs hst q1 gx81
   refine Y wn rfl (yCt O_22 (e0 rfl) hst (mtF mhF) rfl) (Y wn rfl (ya (v := iV x15) (e0 rfl)) (Y wn rfl (ya (v := h82.v) (e0 rfl)) (wN (k115 _ _ (seqQ fun Q116 k116 z116 => wR (Y wn rfl (ym (v := h82.v) (e0 rfl)) (Y wn rfl (ym (v := iV (x1.length : Int)) (et rfl e3_3)) ?_)))))))
   obtain ⟨r83, gr83, hM3⟩ := bs hM3
   refine Yc wn rfl (yCall FN_81 (a2 (e0 rfl) (e0 rfl))) (graph_ascending_ok (hM := gr83) (hst := hst) (q1 := mhF)) ?_
   rintro _ w ⟨rfl, hst⟩
   refine ⟨_, rfl, ?_⟩
   refine Y wn rfl (ynot (e0 rfl)) (Y wn rfl (ym (v := .bool (!(r83))) (e0 rfl)) ?_)
   obtain ⟨r85, gr85, hM3⟩ := bs hM3
   refine joinW 5 (fun f w => f 1 = (pB b3) ∧ f 3 = iV (x1.length : Int) ∧ f 16 = h2.v ∧ f 17 = iV (x1.length : Int) ∧ f 18 = iV x15 ∧ f 32 = .bool r85 ∧ St w0 (ros) (box b3 26 [h2.v] :: rs) w) (fun j8 => ?_) ?_
   ·rcases iteS gr85 with ⟨c87, gr85⟩ | ⟨c87, gr85⟩
    ·refine Y (wg rfl rfl rfl (nF c87)) rfl (yLbs (us := [h2.v]) ST_26 (et rfl e3_1) hst mhR rfl rfl) (Y (wg rfl rfl rfl (nF c87)) rfl (ym (v := iV x15) (e0 rfl)) (Y (wg rfl rfl rfl (nF c87)) rfl (ym (v := iV x15) (e0 rfl)) ?_))
     obtain ⟨r88, gr88, gr85⟩ := bs gr85
     refine Yc (wg rfl rfl rfl (nF c87)) rfl (yCall FN_82 (a3 (e0 rfl) (e0 rfl) (e0 rfl))) (graph_joined_ok (hM := gr88) (hst := hst) (q1 := (mtF (mtF q1)))) ?_
     rintro _ w ⟨rfl, hst⟩
     refine ⟨_, rfl, ?_⟩
     refine Y wn rfl (ypf (v := .bool r88) (e0 rfl) (nF c87) (e0 rfl)) ?_
     obtain rfl := someI gr85
     exact j8 _ _ ⟨e3_1, e3_3, e3_16, e3_17, e3_18, rfl, (hst.facts (allT (allT allI)))⟩
    ·refine Gn (wx rfl rfl rfl (nT (bfalse c87))) rfl (Gn (wx rfl rfl rfl (nT (bfalse c87))) rfl (Gn (wx rfl rfl rfl (nT (bfalse c87))) rfl (Gn (wx rfl rfl rfl (nT (bfalse c87))) rfl (Y wn rfl (ypt (v := .bool true) (e0 rfl) (nT (bfalse c87)) rfl) ?_))))
     obtain rfl := someI gr85
     exact j8 _ _ ⟨e3_1, e3_3, e3_16, e3_17, e3_18, rfl, (hst.facts (allT (allT allI)))⟩
   rintro f w ⟨e86_1, e86_3, e86_16, e86_17, e86_18, e86_32, hst⟩
   refine wN (k116 _ _ ?_)
   rcases iteS hM3 with ⟨c89, hM3⟩ | ⟨c89, hM3⟩
   ·refine condT (et rfl e86_32) c89 (seqQ fun Q117 k117 z117 => wR (Y wn rfl (ya (v := iV 1) rfl) (wN (k117 _ _ (wp_ret (qb114 _ _ _ (z113 _ _ _ rfl ?_)))))))
    obtain rfl := someI hM3
    exact zz3 _ _ _ _ rfl rfl (je3_1 _ _ rfl (hst.pk 1 [] rfl) (ho3 _ rfl))
   ·refine condF (et rfl e86_32) (bfalse c89) (wp_skip (qb114 _ _ _ (k113 _ _ (wR (Y wn rfl (yadd (et rfl e86_18) rfl) (Y wn rfl (ym (v := iV (wa .i64 x15 1)) (e0 rfl)) (wN ?_)))))))
    obtain rfl := someI hM3
    exact n3 _ _ _ rfl ⟨_, _, rfl, rfl, e86_1, e86_3, e86_16, e86_17, rfl, hst⟩
  ·refine condF (e0 rfl) (dF c80) (wp_exit (z112 _ _ _ rfl ?_))
   obtain rfl := someI hM3
   exact zz3 _ _ _ _ rfl rfl (je3_0 _ _ e3_1 hst (ho3 _ rfl))

theorem math_bits_Mul64_ok {x1 : Int} {x2 : Int} {out : Int × Int} (hM : math_bits_Mul64 x1 x2 = some out) (hst : St w0 ros (rs) w) :
  Calls Tryz.prog 116 #[.int .u64 x1, .int .u64 x2] w (fun e w => e = .returned (.tuple #[.int .u64 out.1, .int .u64 out.2]) ∧ St w0 (ros) (rs) w) := by
 refine enterQ Tryz.func116 rfl Tryz.ntmps116 rfl fun Q hQ => seqQ fun Q1 k1 z1 => wR (Y wn rfl (ya (v := .int .u64 0) rfl) (Y wn rfl (ya (v := .int .u64 0) rfl) (wN (k1 _ _ (seqQ fun Q2 k2 z2 => wR (Y wn rfl (ym (v := .int .u64 x1) (e0 rfl)) (Y wn rfl (yand (e0 rfl) rfl) (Y wn rfl (ya (v := .int .u64 (wand .u64 x1 4294967295)) (e0 rfl)) (wN (k2 _ _ ?_))))))))))
 refine seqQ fun Q3 k3 z3 => wR (Y wn rfl (ym (v := .int .u64 x1) (e0 rfl)) (Y wn rfl (yshrc (e0 rfl) rfl) (Y wn rfl (ya (v := .int .u64 (wsrc .u64 x1 32)) (e0 rfl)) (wN (k3 _ _ (seqQ fun Q4 k4 z4 => wR (Y wn rfl (ym (v := .int .u64 x2) (e0 rfl)) (Y wn rfl (yand (e0 rfl) rfl) (Y wn rfl (ya (v := .int .u64 (wand .u64 x2 4294967295)) (e0 rfl)) (wN (k4 _ _ ?_)))))))))))
 refine seqQ fun Q5 k5 z5 => wR (Y wn rfl (ym (v := .int .u64 x2) (e0 rfl)) (Y wn rfl (yshrc (e0 rfl) rfl) (Y wn rfl (ya (v := .int .u64 (wsrc .u64 x2 32)) (e0 rfl)) (wN (k5 _ _ (seqQ fun Q6 k6 z6 => wR (Y wn rfl (ym (v := .int .u64 (wand .u64 x1 4294967295)) (e0 rfl)) (Y wn rfl (ym (v := .int .u64 (wand .u64 x2 4294967295)) (e0 rfl)) (Y wn rfl (ymul (e0 rfl) (e0 rfl)) (Y wn rfl (ya (v := .int .u64 (wm .u64 (wand .u64 x1 4294967295) (wand .u64 x2 4294967295))) (e0 rfl)) (wN ?_)))))))))))
 refine k6 _ _ (seqQ fun Q7 k7 z7 => wR (Y wn rfl (ym (v := .int .u64 (wsrc .u64 x1 32)) (e0 rfl)) (Y wn rfl (ym (v := .int .u64 (wand .u64 x2 4294967295)) (e0 rfl)) (Y wn rfl (ymul (e0 rfl) (e0 rfl)) (Y wn rfl (ym (v := .int .u64 (wm .u64 (wand .u64 x1 4294967295) (wand .u64 x2 4294967295))) (e0 rfl)) (Y wn rfl (yshrc (e0 rfl) rfl) (Y wn rfl (yadd (e0 rfl) (e0 rfl)) (Y wn rfl (ya (v := .int .u64 (wa .u64 (wm .u64 (wsrc .u64 x1 32) (wand .u64 x2 4294967295)) (wsrc .u64 (wm .u64 (wand .u64 x1 4294967295) (wand .u64 x2 4294967295)) 32))) (e0 rfl)) (wN (k7 _ _ (seqQ fun Q8 k8 z8 => wR ?_)))))))))))
 refine Y wn rfl (ym (v := .int .u64 (wa .u64 (wm .u64 (wsrc .u64 x1 32) (wand .u64 x2 4294967295)) (wsrc .u64 (wm .u64 (wand .u64 x1 4294967295) (wand .u64 x2 4294967295)) 32))) (e0 rfl)) (Y wn rfl (yand (e0 rfl) rfl) (Y wn rfl (ya (v := .int .u64 (wand .u64 (wa .u64 (wm .u64 (wsrc .u64 x1 32) (wand .u64 x2 4294967295)) (wsrc .u64 (wm .u64 (wand .u64 x1 4294967295) (wand .u64 x2 4294967295)) 32)) 4294967295)) (e0 rfl)) (wN (k8 _ _ (seqQ fun Q9 k9 z9 => wR (Y wn rfl (ym (v := .int .u64 (wa .u64 (wm .u64 (wsrc .u64 x1 32) (wand .u64 x2 4294967295)) (wsrc .u64 (wm .u64 (wand .u64 x1 4294967295) (wand .u64 x2 4294967295)) 32))) (e0 rfl)) (Y wn rfl (yshrc (e0 rfl) rfl) (Y wn rfl (ya (v := .int .u64 (wsrc .u64 (wa .u64 (wm .u64 (wsrc .u64 x1 32) (wand .u64 x2 4294967295)) (wsrc .u64 (wm .u64 (wand .u64 x1 4294967295) (wand .u64 x2 4294967295)) 32)) 32)) (e0 rfl)) (wN (k9 _ _ (seqQ fun Q10 k10 z10 => wR ?_)))))))))))
 refine Y wn rfl (ym (v := .int .u64 (wand .u64 (wa .u64 (wm .u64 (wsrc .u64 x1 32) (wand .u64 x2 4294967295)) (wsrc .u64 (wm .u64 (wand .u64 x1 4294967295) (wand .u64 x2 4294967295)) 32)) 4294967295)) (e0 rfl)) (Y wn rfl (ym (v := .int .u64 (wand .u64 x1 4294967295)) (e0 rfl)) (Y wn rfl (ym (v := .int .u64 (wsrc .u64 x2 32)) (e0 rfl)) (Y wn rfl (ymul (e0 rfl) (e0 rfl)) (Y wn rfl (yadd (e0 rfl) (e0 rfl)) (Y wn rfl (ya (v := .int .u64 (wa .u64 (wand .u64 (wa .u64 (wm .u64 (wsrc .u64 x1 32) (wand .u64 x2 4294967295)) (wsrc .u64 (wm .u64 (wand .u64 x1 4294967295) (wand .u64 x2 4294967295)) 32)) 4294967295) (wm .u64 (wand .u64 x1 4294967295) (wsrc .u64 x2 32)))) (e0 rfl)) (wN (k10 _ _ (seqQ fun Q11 k11 z11 => wR (Y wn rfl (ym (v := .int .u64 (wsrc .u64 x1 32)) (e0 rfl)) (Y wn rfl (ym (v := .int .u64 (wsrc .u64 x2 32)) (e0 rfl)) (Y wn rfl (ymul (e0 rfl) (e0 rfl)) (Y wn rfl (ym (v := .int .u64 (wsrc .u64 (wa .u64 (wm .u64 (wsrc .u64 x1 32) (wand .u64 x2 4294967295)) (wsrc .u64 (wm .u64 (wand .u64 x1 4294967295) (wand .u64 x2 4294967295)) 32)) 32)) (e0 rfl)) ?_))))))))))))
 refine Y wn rfl (yadd (e0 rfl) (e0 rfl)) (Y wn rfl (ym (v := .int .u64 (wa .u64 (wand .u64 (wa .u64 (wm .u64 (wsrc .u64 x1 32) (wand .u64 x2 4294967295)) (wsrc .u64 (wm .u64 (wand .u64 x1 4294967295) (wand .u64 x2 4294967295)) 32)) 4294967295) (wm .u64 (wand .u64 x1 4294967295) (wsrc .u64 x2 32)))) (e0 rfl)) (Y wn rfl (yshrc (e0 rfl) rfl) (Y wn rfl (yadd (e0 rfl) (e0 rfl)) (Y wn rfl (ya (v := .int .u64 (wa .u64 (wa .u64 (wm .u64 (wsrc .u64 x1 32) (wsrc .u64 x2 32)) (wsrc .u64 (wa .u64 (wm .u64 (wsrc .u64 x1 32) (wand .u64 x2 4294967295)) (wsrc .u64 (wm .u64 (wand .u64 x1 4294967295) (wand .u64 x2 4294967295)) 32)) 32)) (wsrc .u64 (wa .u64 (wand .u64 (wa .u64 (wm .u64 (wsrc .u64 x1 32) (wand .u64 x2 4294967295)) (wsrc .u64 (wm .u64 (wand .u64 x1 4294967295) (wand .u64 x2 4294967295)) 32)) 4294967295) (wm .u64 (wand .u64 x1 4294967295) (wsrc .u64 x2 32))) 32))) (e0 rfl)) (wN (k11 _ _ (seqQ fun Q12 k12 z12 => wR (Y wn rfl (ym (v := .int .u64 x1) (e0 rfl)) (Y wn rfl (ym (v := .int .u64 x2) (e0 rfl)) (Y wn rfl (ymul (e0 rfl) (e0 rfl)) (Y wn rfl (ya (v := .int .u64 (wm .u64 x1 x2)) (e0 rfl)) (wN ?_))))))))))))
 refine k12 _ _ (wp_ret ?_)
 obtain rfl := someI hM
 exact hQ _ _ _ (fin2r Tryz.results116 ⟨rfl, rfl⟩ ⟨rfl, rfl⟩ ⟨rfl, hst⟩)

theorem math_bits_Mul_ok {x1 : Int} {x2 : Int} {out : Int × Int} (hM : math_bits_Mul x1 x2 = some out) (hst : St w0 ros (rs) w) :
  Calls Tryz.prog 95 #[.int .u64 x1, .int .u64 x2] w (fun e w => e = .returned (.tuple #[.int .u64 out.1, .int .u64 out.2]) ∧ St w0 (ros) (rs) w) := by
 refine enterQ Tryz.func95 rfl Tryz.ntmps95 rfl fun Q hQ => seqQ fun Q1 k1 z1 => wR (Y wn rfl (ya (v := .int .u64 0) rfl) (Y wn rfl (ya (v := .int .u64 0) rfl) (wN (k1 _ _ (seqQ fun Q2 k2 z2 => condF rfl rfl (wp_skip (k2 _ _ (seqQ fun Q3 k3 z3 => wR (Y wn rfl (ym (v := .int .u64 x1) (e0 rfl)) ?_)))))))))
 refine Y wn rfl (ym (v := .int .u64 x2) (e0 rfl)) ?_
 obtain ⟨r3, gr3, hM⟩ := bs hM
 refine Yc wn rfl (yCall FN_116 (a2 (e0 rfl) (e0 rfl))) (math_bits_Mul64_ok (hM := gr3) (hst := hst) ) ?_
 rintro _ w ⟨rfl, hst⟩
 refine ⟨_, rfl, ?_⟩
 refine Y wn rfl (ym (v := .tuple #[.int .u64 r3.1, .int .u64 r3.2]) (e0 rfl)) (Y wn rfl (yx (v := .int .u64 r3.1) (e0 rfl) rfl) (Y wn rfl (yx (v := .int .u64 r3.2) (e0 rfl) rfl) (Y wn rfl (ya (v := .int .u64 r3.1) (e0 rfl)) (Y wn rfl (ya (v := .int .u64 r3.2) (e0 rfl)) (wN (k3 _ _ (seqQ fun Q4 k4 z4 => wR (Y wn rfl (ym (v := .int .u64 r3.1) (e0 rfl)) (Y wn rfl (ym (v := .int .u64 r3.2) (e0 rfl)) (Y wn rfl (ya (v := .int .u64 r3.1) (e0 rfl)) (Y wn rfl (ya (v := .int .u64 r3.2) (e0 rfl)) (wN ?_))))))))))))
 refine k4 _ _ (wp_ret ?_)
 obtain rfl := someI hM
 exact hQ _ _ _ (fin2r Tryz.results95 ⟨rfl, rfl⟩ ⟨rfl, rfl⟩ ⟨rfl, hst⟩)

theorem slices_Repeat_int_ok {x1 : List Int} {x3 : Int} {h2 : Hdr} {out : (List Int)} (hM : slices_Repeat_int x1 x3 = some out) (q1 : imm (rI .i64) h2.v x1 ∈ ros) (hst : St w0 ros (rs) w) :
  Calls Tryz.prog 72 #[h2.v, iV x3] w (fun e w => ∃ (h100001 : Hdr), e = .returned (h100001.v) ∧ St w0 (ros) (row 3 (rI .i64) h100001.v out :: rs) w) := by
 refine enterQ Tryz.func72 rfl Tryz.ntmps72 rfl fun Q hQ => seqQ fun Q1 k1 z1 => wR (Y wn rfl (ya (v := hnil.v) rfl) (wN (k1 _ _ (seqQ fun Q2 k2 z2 => seqQ fun Q3 k3 z3 => wR (Y wn rfl (ym (v := iV x3) (e0 rfl)) (Y wn rfl (ylss (e0 rfl) rfl) (wN (k3 _ _ ?_))))))))
 have j1 : ∀ (f : Nat → Value) (w : World), f 0 = h2.v → f 1 = iV x3 → St w0 (ros) (rs) w → slices_Repeat_int_j1 x1 x3 = some out → Q2 .normal (fr 48 f) w := by
  intro f w ej1_0 ej1_1 hst hM
  refine k2 _ _ (seqQ fun Q4 k4 z4 => wR (Y wn rfl (ym (v := h2.v) (et rfl ej1_0)) (Y wn rfl (yLen SL_22 (e0 rfl) hst (rdI q1)) (Y wn rfl (ycv (k' := .u64) (by kernel_rfl) (by kernel_rfl) (e0 rfl)) (Y wn rfl (ym (v := iV x3) (et rfl ej1_1)) (Y wn rfl (ycv (k' := .u64) (by kernel_rfl) (by kernel_rfl) (e0 rfl)) ?_))))))
  obtain ⟨r4, gr4, hM⟩ := bs hM
  refine Yc wn rfl (yCall FN_95 (a2 (e0 rfl) (e0 rfl))) (math_bits_Mul_ok (hM := gr4) (hst := hst) ) ?_
  rintro _ w ⟨rfl, hst⟩
  refine ⟨_, rfl, ?_⟩
  refine Y wn rfl (ym (v := .tuple #[.int .u64 r4.1, .int .u64 r4.2]) (e0 rfl)) (Y wn rfl (yx (v := .int .u64 r4.1) (e0 rfl) rfl) (Y wn rfl (yx (v := .int .u64 r4.2) (e0 rfl) rfl) (Y wn rfl (ya (v := .int .u64 r4.1) (e0 rfl)) (Y wn rfl (ya (v := .int .u64 r4.2) (e0 rfl)) (wN (k4 _ _ (seqQ fun Q5 k5 z5 => seqQ fun Q6 k6 z6 => wR (Y wn rfl (ym (v := .int .u64 r4.1) (e0 rfl)) (Y wn rfl (ygtr (e0 rfl) rfl) (Y wn rfl (ym (v := .bool (decide ((0 : Int) < r4.1))) (e0 rfl)) ?_))))))))))
  refine joinW 3 (fun f w => f 0 = h2.v ∧ f 6 = .int .u64 r4.2 ∧ f 26 = .bool ((decide ((0 : Int) < r4.1)) || (decide ((9223372036854775807 : Int) < r4.2))) ∧ St w0 (ros) (rs) w) (fun j2 => ?_) ?_
  ·rcases Bool.eq_false_or_eq_true (decide ((0 : Int) < r4.1)) with c6 | c6
   ·exact Gn (wx rfl rfl rfl c6) rfl (Gn (wx rfl rfl rfl c6) rfl (Y wn rfl (ypt (v := .bool true) (e0 rfl) c6 rfl) (j2 _ _ ⟨ej1_0, rfl, (congrArg Value.bool (orT c6)), hst⟩)))
   ·exact Y (wg rfl rfl rfl c6) rfl (ym (v := .int .u64 r4.2) (e0 rfl)) (Y (wg rfl rfl rfl c6) rfl (ygtr (e0 rfl) rfl) (Y wn rfl (ypf (v := .bool (decide ((9223372036854775807 : Int) < r4.2))) (e0 rfl) c6 (e0 rfl)) (j2 _ _ ⟨ej1_0, rfl, (congrArg Value.bool (orF c6)), hst⟩)))
  rintro f w ⟨e5_0, e5_6, e5_26, hst⟩
  refine wN (k6 _ _ ?_)
  have j3 : ∀ (f : Nat → Value) (w : World), f 0 = h2.v → f 6 = .int .u64 r4.2 → St w0 (ros) (rs) w → slices_Repeat_int_j3 r4 x1 = some out → Q5 .normal (fr 48 f) w := by
   intro f w ej3_0 ej3_6 hst hM
   refine k5 _ _ (seqQ fun Q7 k7 z7 => wR (Y wn rfl (ym (v := .int .u64 r4.2) (et rfl ej3_6)) (Y wn rfl (ycv (k' := .i64) (by kernel_rfl) (by kernel_rfl) (e0 rfl)) ?_)))
   obtain ⟨x9, gx9, hM⟩ := bs hM
   refine YH wn rfl (rMk hst SL_22 (e0 rfl) gx9) ?_
   intro h7 w hst
   refine Y wn rfl (ya (v := h7.v) (e0 rfl)) (wN (k7 _ _ (seqQ fun Q8 k8 z8 => wR (Y wn rfl (ym (v := h7.v) (e0 rfl)) (Y wn rfl (ym (v := h2.v) (et rfl ej3_0)) ?_)))))
   obtain ⟨x10, gx10, hM⟩ := bs hM
   refine YV wn rfl (rCp hst SL_22 rfl (e0 rfl) (.inr ⟨rfl, rfl, rfl⟩) (e0 rfl) (rdI q1) gx10) ?_
   intro w hst
   refine Y wn rfl (ya (v := iV x10.2) (e0 rfl)) (wN (k8 _ _ (seqQ fun Q9 k9 z9 => blockQ fun Q10 qb10 => ?_)))
   obtain ⟨o4, go4, hM⟩ := bs hM
   have je4_0 : ∀ (x23 : List Int) (f : Nat → Value) (w : World), f 7 = h7.v → St w0 (ros) (row 3 (rI .i64) h7.v x23 :: rs) w → x23 = o4 → Q10 (.exit 0) (fr 48 f) w := by
    intro x23 f w eje4_0_7 hst ho
    subst ho
    refine qb10 _ _ _ (k9 _ _ (seqQ fun Q17 k17 z17 => wR (Y wn rfl (ym (v := h7.v) (et rfl eje4_0_7)) (Y wn rfl (ya (v := h7.v) (e0 rfl)) (wN (k17 _ _ (wp_ret ?_)))))))
    obtain rfl := someI hM
    exact hQ _ _ _ (fin1r Tryz.results72 ⟨rfl, rfl⟩ ⟨_, rfl, hst⟩)
   refine loopQ (fun s a w => ∃ (x15 : List Int) (x16 : Int) (f : Nat → Value), (x15, x16) = s ∧ a = fr 48 f ∧ f 7 = h7.v ∧ f 8 = iV x16 ∧ St w0 (ros) (row 3 (rI .i64) h7.v x15 :: rs) w) go4 ⟨_, _, _, rfl, rfl, rfl, rfl, hst⟩ ?_
   rintro _ _ w r4_ ⟨x15, x16, f, rfl, rfl, e4_7, e4_8, hst⟩ hM4 ho4 Q100004 n4 zz4
   refine seqQ fun Q18 k18 z18 => seqQ fun Q19 k19 z19 => wR (Y wn rfl (ym (v := iV x16) (et rfl e4_8)) (Y wn rfl (ym (v := h7.v) (et rfl e4_7)) (Y wn rfl (yLen SL_22 (e0 rfl) hst (rdO mhR)) (Y wn rfl (ylss (e0 rfl) (e0 rfl)) (wN (k19 _ _ ?_))))))
   rcases iteS hM4 with ⟨c24, hM4⟩ | ⟨c24, hM4⟩
   ·refine condT (e0 rfl) (dT c24) (wp_skip (k18 _ _ (blockQ fun Q20 qb20 => ?_)))
    obtain ⟨x25, gx25, hM4⟩ := bs hM4
    obtain ⟨x26, gx26, hM4⟩ := bs hM4
    obtain ⟨x27, gx27, hM4⟩ := bs hM4
    refine wp_drawR [0, 0, 0, 6, 0, 0, 48, 126, 255, 511] [7, 9] 2 folM (by kernel_rfl) (by kernel_rfl) (by kernel_rfl) ?_
    replace hst := hst.drew
    refine DRn (l1 := [0, 1, 2, 3, 4, 5, 6]) (l2 := []) (lc := [7]) (by kernel_rfl) (by kernel_rfl) (by kernel_rfl) (Ry rfl rfl wn (ym (v := iV x16) (et rfl e4_8)) (Ry rfl rfl wn (ym (v := h7.v) (et rfl e4_7)) (Ry rfl rfl wn (ym (v := iV x16) (et rfl e4_8)) (Ry rfl rfl wn (ySl (k2 := .i64) SL_22 (e0 rfl) hst (rdO mhR) (.inl (congrArg some (e0 rfl))) (.inr ⟨rfl, rfl⟩) gx25) (Ry rfl rfl wn (ym (v := h7.v) (et rfl e4_7)) (Ry rfl rfl wn (ym (v := iV x16) (et rfl e4_8)) (Ry rfl rfl wn (ySl (k1 := .i64) SL_22 (e0 rfl) hst (rdO mhR) (.inr ⟨rfl, rfl⟩) (.inl (congrArg some (e0 rfl))) gx26) (Rn QSn ?_))))))))
    refine Lc rfl ?_ LAn
    refine LV wn (rCp hst SL_22 rfl (e0 rfl) (.inl rfl) (e0 rfl) (rdSub (rdO mhR) gx26) gx27) ?_
    intro w hst
    refine DRn (l1 := [8]) (l2 := [0]) (lc := [9]) (by kernel_rfl) (by kernel_rfl) (by kernel_rfl) (Ry rfl rfl wn (yadd (e0 rfl) (e0 rfl)) (Rn (Sy rfl rfl wn (ym (v := iV x16) (et rfl e4_8)) rfl QSn) ?_))
    refine Lc rfl ?_ LAn
    refine Ly wn (ya (v := iV (wa .i64 x16 x27.2)) (e0 rfl)) (DRz (l1 := []) (l2 := []) (by kernel_rfl) (by kernel_rfl) (Rn QSn (qb20 _ _ _ ?_)))
    obtain rfl := someI hM4
    exact n4 _ _ _ rfl ⟨_, _, _, rfl, rfl, e4_7, rfl, hst⟩
   ·refine condF (e0 rfl) (dF c24) (wp_exit (z18 _ _ _ rfl ?_))
    obtain rfl := someI hM4
    exact zz4 _ _ _ _ rfl rfl (je4_0 _ _ _ e4_7 hst (ho4 _ rfl))
  rcases iteS hM with ⟨c28, hM⟩ | ⟨c28, hM⟩
  ·refine condT (et rfl e5_26) c28 ?_
   cases hM
  ·exact condF (et rfl e5_26) (bfalse c28) (wp_skip (j3 _ _ e5_0 e5_6 hst hM))
 rcases iteS hM with ⟨c29, hM⟩ | ⟨c29, hM⟩
 ·refine condT (e0 rfl) (dT c29) ?_
  cases hM
 ·exact condF (e0 rfl) (dF c29) (wp_skip (j1 _ _ rfl rfl hst hM))

theorem dissect_units_ok {x1 : List (List Int)} {h2 : Hdr} {out : (List (List Int)) × (List Int) × (List (List Int))} (hM : dissect_units x1 = some out) (q1 : imm (rS (rI .i64)) h2.v x1 ∈ ros) (hst : St w0 ros (rs) w) :
  Calls Tryz.prog 85 #[.agg #[h2.v]] w (fun e w => ∃ (h100001 : Hdr) (h100003 : Hdr) (h100005 : Hdr), e = .returned (.agg #[h100001.v, h100003.v, h100005.v]) ∧ St w0 (imm (rS (rI .i64)) h100001.v out.1 :: ros) (row 3 (rI .i64) h100003.v out.2.1 :: row 22 (rS (rI .i64)) h100005.v out.2.2 :: rs) w) := by
 refine enterQ Tryz.func85 rfl Tryz.ntmps85 rfl fun Q hQ => seqQ fun Q1 k1 z1 => wR (YB wn rfl (r_box (vals := [h2.v]) hst (e0 rfl) rfl) ?_)
 intro b3 w hst
 refine YB wn rfl (rAl hst ZT_28) ?_
 intro b4 w hst
 refine wN (k1 _ _ (seqQ fun Q2 k2 z2 => ?_))
 obtain ⟨r6, gr6, hM⟩ := bs hM
 refine joinN (n := 31) (fun f w => ∃ (b9 : Nat) (h10 : Hdr), f 1 = (pB b3) ∧ f 2 = (pB b4) ∧ f 3 = (pB b9) ∧ St w0 (ros) (box b3 26 [h2.v] :: box b4 28 [hnil.v, hnil.v, hnil.v] :: row 3 (rI .i64) h10.v r6 :: box b9 28 [h2.v, h10.v, hnil.v] :: rs) w) (fun j1 => ?_) ?_
 ·refine wp_drawR [0, 0, 0, 4, 12, 30, 63, 0, 255] [1, 5, 7, 8] 4 folM (by kernel_rfl) (by kernel_rfl) (by kernel_rfl) ?_
  replace hst := hst.drew
  refine DRn (l1 := [0, 2, 3, 4]) (l2 := []) (lc := [1, 7]) (by kernel_rfl) (by kernel_rfl) (by kernel_rfl) (Ry rfl rfl wn (yLbs (us := [h2.v]) ST_26 (e0 rfl) hst (mtR mhR) rfl rfl) (Ry rfl rfl wn (yFb FL_26_0 (e0 rfl)) (Ry rfl rfl wn (yLb (u := h2.v) O_24 (e0 rfl) hst (mtR mhR) rfl) (Ry rfl rfl wn (yLen SL_24 (e0 rfl) hst (rdI q1)) (Rn QSn ?_)))))
  refine Lc rfl ?_ (Lc rfl ?_ LAn)
  ·refine LH wn (rLt (n := 1) (l := [1]) hst SL_22 [iV 1] (bp1 rfl) rfl rfl (mks1 (cs := [iV 1]) rfl mkI mks0)) ?_
   intro h5 w hst
   refine DRn (l1 := []) (l2 := [0, 2, 3, 4]) (lc := [5, 7]) (by kernel_rfl) (by kernel_rfl) (by kernel_rfl) (Rn (Sy rfl rfl wn (yLbs (us := [h2.v]) ST_26 (e0 rfl) hst (mtR (mtR mhR)) rfl rfl) rfl (Sy rfl rfl wn (yFb FL_26_0 (e0 rfl)) rfl (Sy rfl rfl wn (yLb (u := h2.v) O_24 (e0 rfl) hst (mtR (mtR mhR)) rfl) rfl (Sy rfl rfl wn (yLen SL_24 (e0 rfl) hst (rdI q1)) rfl QSn)))) ?_)
   refine Lc rfl ?_ (Lc rfl ?_ LAn)
   ·replace hst := hst.fz
    refine Lk wn (yCall FN_72 (a2 (e0 rfl) (e0 rfl))) (slices_Repeat_int_ok (hM := gr6) (hst := hst) (q1 := mhF)) ?_
    rintro _ w ⟨h7, rfl, hst⟩
    refine ⟨_, rfl, ?_⟩
    refine DRn (l1 := [6]) (l2 := [0]) (lc := [7]) (by kernel_rfl) (by kernel_rfl) (by kernel_rfl) (Ry rfl rfl wn (ybuild (us := [h2.v, h7.v, hnil.v]) [(0, .agg #[h2.v]), (1, h7.v)] SO_28 (bp2 (e0 rfl) (e0 rfl)) rfl) (Rn (Sy rfl rfl wn (yLbs (us := [h2.v]) ST_26 (e0 rfl) hst (mtR (mtR mhR)) rfl rfl) rfl QSn) ?_))
    refine Lc rfl ?_ LAn
    refine LB wn (rAl hst ZT_28) ?_
    intro b8 w hst
    refine DRn (l1 := []) (l2 := [0, 6]) (lc := [8]) (by kernel_rfl) (by kernel_rfl) (by kernel_rfl) (Rn (Sy rfl rfl wn (yLbs (us := [h2.v]) ST_26 (e0 rfl) hst (mtR (mtR (mtR mhR))) rfl rfl) rfl (Sy rfl rfl wn (ybuild (us := [h2.v, h7.v, hnil.v]) [(0, .agg #[h2.v]), (1, h7.v)] SO_28 (bp2 (e0 rfl) (e0 rfl)) rfl) rfl QSn)) ?_)
    refine Lc rfl ?_ LAn
    refine LT wn (r_stbn (vals' := [h2.v, h7.v, hnil.v]) (us := [h2.v, h7.v, hnil.v]) hst ST_28 (e0 rfl) (e0 rfl) rfl rfl (one_of rfl) rfl) ?_
    intro w hst
    exact DRz (l1 := []) (l2 := []) (by kernel_rfl) (by kernel_rfl) (Rn QSn (j1 _ _ ⟨_, _, rfl, rfl, rfl, ((hst.pk 4 [3, 2, 1, 0] rfl).facts (allT allI))⟩))
   ·refine LB wn (rAl hst ZT_28) ?_
    intro b8 w hst
    refine DRn (l1 := []) (l2 := [0, 2, 3, 4]) (lc := [5]) (by kernel_rfl) (by kernel_rfl) (by kernel_rfl) (Rn (Sy rfl rfl wn (yLbs (us := [h2.v]) ST_26 (e0 rfl) hst (mtR (mtR (mtR mhR))) rfl rfl) rfl (Sy rfl rfl wn (yFb FL_26_0 (e0 rfl)) rfl (Sy rfl rfl wn (yLb (u := h2.v) O_24 (e0 rfl) hst (mtR (mtR (mtR mhR))) rfl) rfl (Sy rfl rfl wn (yLen SL_24 (e0 rfl) hst (rdI q1)) rfl QSn)))) ?_)
    refine Lc rfl ?_ LAn
    replace hst := hst.pk 2 [1, 0] rfl
    replace hst := hst.fz
    refine Lk wn (yCall FN_72 (a2 (e0 rfl) (e0 rfl))) (slices_Repeat_int_ok (hM := gr6) (hst := hst) (q1 := mhF)) ?_
    rintro _ w ⟨h7, rfl, hst⟩
    refine ⟨_, rfl, ?_⟩
    refine DRn (l1 := [6]) (l2 := [0]) (lc := [8]) (by kernel_rfl) (by kernel_rfl) (by kernel_rfl) (Ry rfl rfl wn (ybuild (us := [h2.v, h7.v, hnil.v]) [(0, .agg #[h2.v]), (1, h7.v)] SO_28 (bp2 (e0 rfl) (e0 rfl)) rfl) (Rn (Sy rfl rfl wn (yLbs (us := [h2.v]) ST_26 (e0 rfl) hst (mtR (mtR (mtR mhR))) rfl rfl) rfl QSn) ?_))
    refine Lc rfl ?_ LAn
    replace hst := hst.pk 2 [1, 0] rfl
    refine LT wn (r_stbn (vals' := [h2.v, h7.v, hnil.v]) (us := [h2.v, h7.v, hnil.v]) hst ST_28 (e0 rfl) (e0 rfl) rfl rfl (one_of rfl) rfl) ?_
    intro w hst
    exact DRz (l1 := []) (l2 := []) (by kernel_rfl) (by kernel_rfl) (Rn QSn (j1 _ _ ⟨_, _, rfl, rfl, rfl, ((hst.pk 4 [3, 2, 1, 0] rfl).facts (allT allI))⟩))
  ·refine LB wn (rAl hst ZT_28) ?_
   intro b8 w hst
   refine DRn (l1 := []) (l2 := [0, 2, 3, 4]) (lc := [1]) (by kernel_rfl) (by kernel_rfl) (by kernel_rfl) (Rn (Sy rfl rfl wn (yLbs (us := [h2.v]) ST_26 (e0 rfl) hst (mtR (mtR mhR)) rfl rfl) rfl (Sy rfl rfl wn (yFb FL_26_0 (e0 rfl)) rfl (Sy rfl rfl wn (yLb (u := h2.v) O_24 (e0 rfl) hst (mtR (mtR mhR)) rfl) rfl (Sy rfl rfl wn (yLen SL_24 (e0 rfl) hst (rdI q1)) rfl QSn)))) ?_)
   refine Lc rfl ?_ LAn
   refine LH wn (rLt (n := 1) (l := [1]) hst SL_22 [iV 1] (bp1 rfl) rfl rfl (mks1 (cs := [iV 1]) rfl mkI mks0)) ?_
   intro h5 w hst
   refine DRn (l1 := []) (l2 := [0, 2, 3, 4]) (lc := [5]) (by kernel_rfl) (by kernel_rfl) (by kernel_rfl) (Rn (Sy rfl rfl wn (yLbs (us := [h2.v]) ST_26 (e0 rfl) hst (mtR (mtR (mtR mhR))) rfl rfl) rfl (Sy rfl rfl wn (yFb FL_26_0 (e0 rfl)) rfl (Sy rfl rfl wn (yLb (u := h2.v) O_24 (e0 rfl) hst (mtR (mtR (mtR mhR))) rfl) rfl (Sy rfl rfl wn (yLen SL_24 (e0 rfl) hst (rdI q1)) rfl QSn)))) ?_)
   refine Lc rfl ?_ LAn
   replace hst := hst.fz
   refine Lk wn (yCall FN_72 (a2 (e0 rfl) (e0 rfl))) (slices_Repeat_int_ok (hM := gr6) (hst := hst) (q1 := mhF)) ?_
   rintro _ w ⟨h7, rfl, hst⟩
   refine ⟨_, rfl, ?_⟩
   refine DRn (l1 := [6]) (l2 := [0]) (lc := [8]) (by kernel_rfl) (by kernel_rfl) (by kernel_rfl) (Ry rfl rfl wn (ybuild (us := [h2.v, h7.v, hnil.v]) [(0, .agg #[h2.v]), (1, h7.v)] SO_28 (bp2 (e0 rfl) (e0 rfl)) rfl) (Rn (Sy rfl rfl wn (yLbs (us := [h2.v]) ST_26 (e0 rfl) hst (mtR (mtR (mtR mhR))) rfl rfl) rfl QSn) ?_))
   refine Lc rfl ?_ LAn
   replace hst := hst.pk 2 [1, 0] rfl
   refine LT wn (r_stbn (vals' := [h2.v, h7.v, hnil.v]) (us := [h2.v, h7.v, hnil.v]) hst ST_28 (e0 rfl) (e0 rfl) rfl rfl (one_of rfl) rfl) ?_
   intro w hst
   exact DRz (l1 := []) (l2 := []) (by kernel_rfl) (by kernel_rfl) (Rn QSn (j1 _ _ ⟨_, _, rfl, rfl, rfl, ((hst.pk 4 [3, 2, 1, 0] rfl).facts (allT allI))⟩))
 rintro f w ⟨b9, h10, e11_1, e11_2, e11_3, hst⟩
 refine k2 _ _ (seqQ fun Q3 k3 z3 => seqQ fun Q4 k4 z4 => wR (Y wn rfl (yFb FL_26_0 (et rfl e11_1)) (Y wn rfl (yLb (u := h2.v) O_24 (e0 rfl) hst mhR rfl) (Y wn rfl (yLen SL_24 (e0 rfl) hst (rdI q1)) (Y wn rfl (ym (v := iV 0) rfl) (wN (k4 _ _ (blockQ fun Q5 qb5 => ?_))))))))
 obtain ⟨o2, go2, hM⟩ := bs hM
 have je2_0 : ∀ (x37 : List (List Int)) (h36 : Hdr) (f : Nat → Value) (w : World), f 2 = (pB b4) → f 3 = (pB b9) → St w0 (ros) (box b4 28 [hnil.v, hnil.v, hnil.v] :: row 3 (rI .i64) h10.v r6 :: row 22 (rS (rI .i64)) h36.v x37 :: box b9 28 [h2.v, h10.v, h36.v] :: rs) w → x37 = o2 → Q5 (.exit 0) (fr 31 f) w := by
  intro x37 h36 f w eje2_0_2 eje2_0_3 hst ho
  subst ho
  refine qb5 _ _ _ (k3 _ _ (seqQ fun Q16 k16 z16 => wR (Y wn rfl (yLbs (us := [h2.v, h10.v, h36.v]) ST_28 (et rfl eje2_0_3) hst (mtR (mtR (mtR mhR))) rfl rfl) (YT wn rfl (r_stbn (vals' := [h2.v, h10.v, h36.v]) (us := [h2.v, h10.v, h36.v]) hst ST_28 (et rfl eje2_0_2) (e0 rfl) rfl rfl (one_of rfl) rfl) ?_))))
  intro w hst
  refine wN (k16 _ _ (wp_ret ?_))
  obtain rfl := someI hM
  exact hQ _ _ _ (fin1r Tryz.results85 (rcs2 rfl eje2_0_2 hst mhR ST_28 rfl) ⟨_, _, _, rfl, ((hst.pk 4 [1, 1] rfl).facts (allC q1 allI))⟩)
 replace hst := hst.rowNh 22 (rS (rI .i64))
 refine loopQ (fun s a w => ∃ (x22 : List (List Int)) (x23 : Int) (f : Nat → Value) (h21 : Hdr), (x22, x23) = s ∧ a = fr 31 f ∧ f 2 = (pB b4) ∧ f 3 = (pB b9) ∧ f 14 = h2.v ∧ f 15 = iV (x1.length : Int) ∧ f 16 = iV x23 ∧ St w0 (ros) (box b4 28 [hnil.v, hnil.v, hnil.v] :: row 3 (rI .i64) h10.v r6 :: row 22 (rS (rI .i64)) h21.v x22 :: box b9 28 [h2.v, h10.v, h21.v] :: rs) w) go2 ⟨_, _, _, _, rfl, rfl, e11_2, e11_3, rfl, rfl, rfl, (hst.pk 5 [2, 2, 0, 1] rfl)⟩ ?_
 rintro _ _ w r2_ ⟨x22, x23, f, h21, rfl, rfl, e2_2, e2_3, e2_14, e2_15, e2_16, hst⟩ hM2 ho2 Q100002 n2 zz2
 refine seqQ fun Q17 k17 z17 => wR (Y wn rfl (ylss (et rfl e2_16) (et rfl e2_15)) (wN (k17 _ _ (seqQ fun Q18 k18 z18 => ?_))))
 rcases iteS hM2 with ⟨c38, hM2⟩ | ⟨c38, hM2⟩
 ·refine condT (e0 rfl) (dT c38) (wp_skip (k18 _ _ (seqQ fun Q19 k19 z19 => blockQ fun Q20 qb20 => seqQ fun Q21 k21 z21 => wR ?_)))
  obtain ⟨x39, gx39, hM2⟩ := bs hM2
  refine Y wn rfl (yIa SL_24 (et rfl e2_14) (et rfl e2_16) hst (rdI q1) gx39) ?_
  obtain ⟨h40, hst⟩ := iLs hst q1 gx39
  refine Y wn rfl (yCt O_22 (e0 rfl) hst (mtF mhF) rfl) (Y wn rfl (ya (v := h40.v) (e0 rfl)) (wN (k21 _ _ ?_)))
  obtain ⟨r42, gr42, hM2⟩ := bs hM2
  obtain ⟨x46, gx46, hM2⟩ := bs hM2
  refine wp_drawR [0, 1, 0, 0, 8, 28, 60, 127, 255, 511] [2, 5, 6, 7, 9] 5 folM (by kernel_rfl) (by kernel_rfl) (by kernel_rfl) ?_
  replace hst := hst.drew
  refine DRn (l1 := [0, 1, 3, 4]) (l2 := []) (lc := [2]) (by kernel_rfl) (by kernel_rfl) (by kernel_rfl) (Ry rfl rfl wn (yFb FL_28_2 (et rfl e2_3)) (Ry rfl rfl wn (yLb (u := h21.v) O_24 (e0 rfl) hst (mtR (mtR (mtR mhR))) rfl) (Ry rfl rfl wn (ym (v := h40.v) (e0 rfl)) (Ry rfl rfl wn (yLen SL_22 (e0 rfl) hst (rdI mhF)) (Rn QSn ?_)))))
  refine Lc rfl ?_ LAn
  refine LH wn (rLt (n := 1) (l := [1]) hst SL_22 [iV 1] (bp1 rfl) rfl rfl (mks1 (cs := [iV 1]) rfl mkI mks0)) ?_
  intro h41 w hst
  refine DRn (l1 := []) (l2 := [0, 1, 3, 4]) (lc := [5]) (by kernel_rfl) (by kernel_rfl) (by kernel_rfl) (Rn (Sy rfl rfl wn (yFb FL_28_2 (et rfl e2_3)) rfl (Sy rfl rfl wn (yLb (u := h21.v) O_24 (e0 rfl) hst (mtR (mtR (mtR (mtR mhR)))) rfl) rfl (Sy rfl rfl wn (ym (v := h40.v) (e0 rfl)) rfl (Sy rfl rfl wn (yLen SL_22 (e0 rfl) hst (rdI mhF)) rfl QSn)))) ?_)
  refine Lc rfl ?_ LAn
  replace hst := hst.fz
  refine Lk wn (yCall FN_72 (a2 (e0 rfl) (e0 rfl))) (slices_Repeat_int_ok (hM := gr42) (hst := hst) (q1 := mhF)) ?_
  rintro _ w ⟨h43, rfl, hst⟩
  refine ⟨_, rfl, ?_⟩
  refine DRn (l1 := []) (l2 := [0, 1]) (lc := [6]) (by kernel_rfl) (by kernel_rfl) (by kernel_rfl) (Rn (Sy rfl rfl wn (yFb FL_28_2 (et rfl e2_3)) rfl (Sy rfl rfl wn (yLb (u := h21.v) O_24 (e0 rfl) hst (mtR (mtR (mtR (mtR mhR)))) rfl) rfl QSn)) ?_)
  refine Lc rfl ?_ LAn
  replace hst := hst.fz
  refine LH wn (rLt (n := 1) (l := [r42]) hst SL_24 [h43.v] (bp1 (e0 rfl)) rfl rfl (mks1 (cs := [h43.v]) rfl (mkS mhF) mks0)) ?_
  intro h44 w hst
  refine DRn (l1 := []) (l2 := [0, 1]) (lc := [7]) (by kernel_rfl) (by kernel_rfl) (by kernel_rfl) (Rn (Sy rfl rfl wn (yFb FL_28_2 (et rfl e2_3)) rfl (Sy rfl rfl wn (yLb (u := h21.v) O_24 (e0 rfl) hst (mtR (mtR (mtR (mtR mhR)))) rfl) rfl QSn)) ?_)
  refine Lc rfl ?_ LAn
  replace hst := hst.pk 4 [3, 0, 0, 0] rfl
  refine LH wn (rAp hst SL_24 (e0 rfl) (e0 rfl) (rdO (mtR mhR)) gx46) ?_
  intro h45 w hst
  refine DRn (l1 := [8]) (l2 := []) (lc := [9]) (by kernel_rfl) (by kernel_rfl) (by kernel_rfl) (Ry rfl rfl wn (yFb FL_28_2 (et rfl e2_3)) (Rn QSn ?_))
  refine Lc rfl ?_ LAn
  replace hst := hst.pk 5 [4, 0, 0, 0, 0] rfl
  refine LT wn (r_stb1 (vals' := [h2.v, h10.v, h45.v]) hst O_24 (e0 rfl) (e0 rfl) rfl rfl rfl rfl) ?_
  intro w hst
  refine DRz (l1 := []) (l2 := []) (by kernel_rfl) (by kernel_rfl) (Rn QSn (qb20 _ _ _ (k19 _ _ (wR (Y wn rfl (yadd (et rfl e2_16) rfl) (Y wn rfl (ym (v := iV (wa .i64 x23 1)) (e0 rfl)) (wN ?_)))))))
  obtain rfl := someI hM2
  exact n2 _ _ _ rfl ⟨_, _, _, _, rfl, rfl, e2_2, e2_3, e2_14, e2_15, rfl, ((hst.pk 5 [3, 3, 1, 0] rfl).facts (allT (allT (allT (allT allI)))))⟩
 ·refine condF (e0 rfl) (dF c38) (wp_exit (z18 _ _ _ rfl ?_))
  obtain rfl := someI hM2
  exact zz2 _ _ _ _ rfl rfl (je2_0 _ _ _ _ e2_2 e2_3 hst (ho2 _ rfl))

theorem dissect_total_ok {x1 : List Int} {h2 : Hdr} {out : Int} (hM : dissect_total x1 = some out) (q1 : imm (rI .i64) h2.v x1 ∈ ros) (hst : St w0 ros (rs) w) :
  Calls Tryz.prog 96 #[h2.v] w (fun e w => e = .returned (iV out) ∧ St w0 (ros) (rs) w) := by
 refine enterQ Tryz.func96 rfl Tryz.ntmps96 rfl fun Q hQ => seqQ fun Q1 k1 z1 => wR (Y wn rfl (ya (v := iV 0) rfl) (wN (k1 _ _ (seqQ fun Q2 k2 z2 => wR (Y wn rfl (ya (v := iV 0) rfl) (wN (k2 _ _ (seqQ fun Q3 k3 z3 => seqQ fun Q4 k4 z4 => wR ?_))))))))
 refine Y wn rfl (ym (v := h2.v) (e0 rfl)) (Y wn rfl (yLen SL_22 (e0 rfl) hst (rdI q1)) (Y wn rfl (ym (v := iV 0) rfl) (wN (k4 _ _ (blockQ fun Q5 qb5 => ?_)))))
 obtain ⟨o1, go1, hM⟩ := bs hM
 have je1_0 : ∀ (x11 : Int) (f : Nat → Value) (w : World), f 3 = iV x11 → St w0 (ros) (rs) w → x11 = o1 → Q5 (.exit 0) (fr 17 f) w := by
  intro x11 f w eje1_0_3 hst ho
  subst ho
  refine qb5 _ _ _ (k3 _ _ (seqQ fun Q16 k16 z16 => wR (Y wn rfl (ym (v := iV x11) (et rfl eje1_0_3)) (Y wn rfl (ya (v := iV x11) (e0 rfl)) (wN (k16 _ _ (wp_ret ?_)))))))
  obtain rfl := someI hM
  exact hQ _ _ _ (fin1r Tryz.results96 ⟨rfl, rfl⟩ ⟨rfl, hst⟩)
 refine loopQ (fun s a w => ∃ (x5 : Int) (x6 : Int) (f : Nat → Value), (x5, x6) = s ∧ a = fr 17 f ∧ f 3 = iV x5 ∧ f 6 = h2.v ∧ f 7 = iV (x1.length : Int) ∧ f 8 = iV x6 ∧ St w0 (ros) (rs) w) go1 ⟨_, _, _, rfl, rfl, rfl, rfl, rfl, rfl, hst⟩ ?_
 rintro _ _ w r1_ ⟨x5, x6, f, rfl, rfl, e1_3, e1_6, e1_7, e1_8, hst⟩ hM1 ho1 Q100001 n1 zz1
 refine seqQ fun Q17 k17 z17 => wR (Y wn rfl (ylss (et rfl e1_8) (et rfl e1_7)) (wN (k17 _ _ (seqQ fun Q18 k18 z18 => ?_))))
 rcases iteS hM1 with ⟨c12, hM1⟩ | ⟨c12, hM1⟩
 ·refine condT (e0 rfl) (dT c12) (wp_skip (k18 _ _ (seqQ fun Q19 k19 z19 => blockQ fun Q20 qb20 => seqQ fun Q21 k21 z21 => wR ?_)))
  obtain ⟨x13, gx13, hM1⟩ := bs hM1
  refine Y wn rfl (yIa SL_22 (et rfl e1_6) (et rfl e1_8) hst (rdI q1) gx13) (Y wn rfl (yI O_3 (e0 rfl) hst (rdI q1) gx13) (Y wn rfl (ya (v := iV x13) (e0 rfl)) (wN (k21 _ _ (wR (Y wn rfl (ym (v := iV x5) (et rfl e1_3)) (Y wn rfl (ym (v := iV x13) (e0 rfl)) (Y wn rfl (yadd (e0 rfl) (e0 rfl)) (Y wn rfl (ya (v := iV (wa .i64 x5 x13)) (e0 rfl)) (wN (qb20 _ _ _ (k19 _ _ (wR ?_)))))))))))))
  refine Y wn rfl (yadd (et rfl e1_8) rfl) (Y wn rfl (ym (v := iV (wa .i64 x6 1)) (e0 rfl)) (wN ?_))
  obtain rfl := someI hM1
  exact n1 _ _ _ rfl ⟨_, _, _, rfl, rfl, rfl, e1_6, e1_7, rfl, hst⟩
 ·refine condF (e0 rfl) (dF c12) (wp_exit (z18 _ _ _ rfl ?_))
  obtain rfl := someI hM1
  exact zz1 _ _ _ _ rfl rfl (je1_0 _ _ _ e1_3 hst (ho1 _ rfl))

theorem graph_levels_ok {x1 : List (List Int)} {x3 : Int} {h2 : Hdr} {out : (List (List Int))} (hM : graph_levels x1 x3 = some out) (q1 : imm (rS (rI .i64)) h2.v x1 ∈ ros) (hst : St w0 ros (rs) w) :
  Calls Tryz.prog 117 #[.agg #[h2.v], iV x3] w (fun e w => ∃ (h100001 : Hdr), e = .returned (h100001.v) ∧ St w0 (ros) (row 22 (rS (rI .i64)) h100001.v out :: rs) w) := by
 refine enterQ Tryz.func117 rfl Tryz.ntmps117 rfl fun Q hQ => seqQ fun Q1 k1 z1 => wR (YB wn rfl (r_box (vals := [h2.v]) hst (e0 rfl) rfl) ?_)
 intro b4 w hst
 refine Y wn rfl (ya (v := hnil.v) rfl) (wN (k1 _ _ (seqQ fun Q2 k2 z2 => wR (Y wn rfl (yFb FL_26_0 (e0 rfl)) (Y wn rfl (yLb (u := h2.v) O_24 (e0 rfl) hst mhR rfl) (Y wn rfl (yLen SL_24 (e0 rfl) hst (rdI q1)) ?_))))))
 obtain ⟨x7, gx7, hM⟩ := bs hM
 refine YH wn rfl (rMk hst SL_93 (e0 rfl) gx7) ?_
 intro h5 w hst
 refine Y wn rfl (ya (v := h5.v) (e0 rfl)) (wN (k2 _ _ (seqQ fun Q3 k3 z3 => wR (Y wn rfl (ym (v := h5.v) (e0 rfl)) (Y wn rfl (ym (v := iV x3) (e0 rfl)) ?_)))))
 obtain ⟨x8, gx8, hM⟩ := bs hM
 refine Y wn rfl (yIs SL_93 (e0 rfl) (e0 rfl) hst (rdO mhR) gx8) (YT wn rfl (r_sti (cs := [.bool true]) hst O_4 rfl (e0 rfl) rfl rfl mkB gx8) ?_)
 intro w hst
 refine wN (k3 _ _ (seqQ fun Q4 k4 z4 => wR (Y wn rfl (ya (v := hnil.v) rfl) (wN (k4 _ _ (seqQ fun Q5 k5 z5 => seqQ fun Q6 k6 z6 => wR (Y wn rfl (ym (v := iV x3) (e0 rfl)) (YH wn rfl (rLt (n := 1) (l := [x3]) hst SL_22 [iV x3] (bp1 (e0 rfl)) rfl rfl (mks1 (cs := [iV x3]) rfl mkI mks0)) ?_))))))))
 intro h9 w hst
 refine Y wn rfl (ya (v := h9.v) (e0 rfl)) (wN (k6 _ _ (blockQ fun Q7 qb7 => ?_)))
 obtain ⟨o27, go27, hM⟩ := bs hM
 have je27_0 : ∀ (x413 : List (List Int)) (h412 : Hdr) (f : Nat → Value) (w : World), f 6 = h412.v → St w0 (ros) (row 22 (rS (rI .i64)) h412.v x413 :: rs) w → x413 = o27 → Q7 (.exit 0) (fr 63 f) w := by
  intro x413 h412 f w eje27_0_6 hst ho
  subst ho
  refine qb7 _ _ _ (k5 _ _ (seqQ fun Q212 k212 z212 => wR (Y wn rfl (ym (v := h412.v) (et rfl eje27_0_6)) (Y wn rfl (ya (v := h412.v) (e0 rfl)) (wN (k212 _ _ (wp_ret ?_)))))))
  obtain rfl := someI hM
  exact hQ _ _ _ (fin1r Tryz.results117 ⟨rfl, rfl⟩ ⟨_, rfl, hst⟩)
 replace hst := hst.rowNh 22 (rS (rI .i64))
 refine loopQ (fun s a w => ∃ (x206 : List Bool) (x208 : List (List Int)) (x210 : List Int) (f : Nat → Value) (h207 : Hdr) (h209 : Hdr), (x206, x208, x210) = s ∧ a = fr 63 f ∧ f 2 = (pB b4) ∧ f 5 = h5.v ∧ f 6 = h207.v ∧ f 7 = h209.v ∧ St w0 (ros) (box b4 26 [h2.v] :: row 4 rB h5.v x206 :: row 22 (rS (rI .i64)) h207.v x208 :: row 3 (rI .i64) h209.v x210 :: rs) w) go27 ⟨_, _, _, _, _, _, rfl, rfl, rfl, rfl, rfl, rfl, (hst.pk 4 [3, 2, 0, 0] rfl)⟩ ?_
 rintro _ _ w r27_ ⟨x206, x208, x210, f, h207, h209, rfl, rfl, e27_2, e27_5, e27_6, e27_7, hst⟩ hM27 ho27 Q100027 n27 zz27
 refine seqQ fun Q213 k213 z213 => seqQ fun Q214 k214 z214 => wR (Y wn rfl (ym (v := h209.v) (et rfl e27_7)) (Y wn rfl (yLen SL_22 (e0 rfl) hst (rdO (mtR (mtR (mtR mhR))))) (Y wn rfl (ygtr (e0 rfl) rfl) (wN (k214 _ _ ?_)))))
 rcases iteS hM27 with ⟨c414, hM27⟩ | ⟨c414, hM27⟩
 ·refine condT (e0 rfl) (dT c414) (wp_skip (k213 _ _ (blockQ fun Q215 qb215 => seqQ fun Q216 k216 z216 => wR (Y wn rfl (ym (v := h207.v) (et rfl e27_6)) (Y wn rfl (ym (v := h209.v) (et rfl e27_7)) ?_)))))
  replace hst := hst.pk 4 [3, 0, 0, 0] rfl
  replace hst := hst.fz
  refine YH wn rfl (rLt (n := 1) (l := [x210]) hst SL_24 [h209.v] (bp1 (e0 rfl)) rfl rfl (mks1 (cs := [h209.v]) rfl (mkS mhF) mks0)) ?_
  intro h415 w hst
  obtain ⟨x417, gx417, hM27⟩ := bs hM27
  replace hst := hst.pk 4 [3, 0, 0, 0] rfl
  refine YH wn rfl (rAp hst SL_24 (e0 rfl) (e0 rfl) (rdO (mtR mhR)) gx417) ?_
  intro h416 w hst
  refine Y wn rfl (ya (v := h416.v) (e0 rfl)) (wN (k216 _ _ (seqQ fun Q217 k217 z217 => wR (Y wn rfl (ya (v := hnil.v) rfl) (wN (k217 _ _ (seqQ fun Q218 k218 z218 => seqQ fun Q219 k219 z219 => wR (Y wn rfl (ym (v := h209.v) (et rfl e27_7)) (Y wn rfl (yLen SL_22 (e0 rfl) hst (rdI mhF)) (Y wn rfl (ym (v := iV 0) rfl) ?_))))))))))
  refine wN (k219 _ _ (blockQ fun Q220 qb220 => ?_))
  obtain ⟨o36, go36, hM27⟩ := bs hM27
  have je36_0 : ∀ (x546 : List Bool) (x548 : List Int) (h547 : Hdr) (f : Nat → Value) (w : World), f 2 = (pB b4) → f 5 = h5.v → f 6 = h416.v → f 8 = h547.v → St w0 (ros) (box b4 26 [h2.v] :: row 4 rB h5.v x546 :: row 22 (rS (rI .i64)) h416.v x417 :: row 3 (rI .i64) h547.v x548 :: rs) w → (x546, x548) = o36 → Q220 (.exit 2) (fr 63 f) w := by
   intro x546 x548 h547 f w eje36_0_2 eje36_0_5 eje36_0_6 eje36_0_8 hst ho
   subst ho
   refine qb220 _ _ _ (k218 _ _ (seqQ fun Q283 k283 z283 => wR (Y wn rfl (ym (v := h547.v) (et rfl eje36_0_8)) ?_)))
   obtain ⟨r549, gr549, hM27⟩ := bs hM27
   replace hst := hst.pk 4 [3, 0, 0, 0] rfl
   refine Yc wn rfl (yCall FN_118 (a1 (e0 rfl))) (sortI_ok (hM := gr549) (hst := hst) ) ?_
   rintro _ w ⟨rfl, hst⟩
   refine ⟨_, rfl, ?_⟩
   refine wN (k283 _ _ (wR (Y wn rfl (ym (v := h547.v) (et rfl eje36_0_8)) (Y wn rfl (ya (v := h547.v) (e0 rfl)) (wN (qb215 _ _ _ ?_))))))
   obtain rfl := someI hM27
   exact n27 _ _ _ rfl ⟨_, _, _, _, _, _, rfl, rfl, eje36_0_2, eje36_0_5, eje36_0_6, rfl, (hst.pk 4 [1, 1, 1, 0] rfl)⟩
  replace hst := hst.rowNh 3 (rI .i64)
  refine loopQ (fun s a w => ∃ (x478 : List Bool) (x480 : List Int) (x481 : Int) (f : Nat → Value) (h479 : Hdr), (x478, x480, x481) = s ∧ a = fr 63 f ∧ f 2 = (pB b4) ∧ f 5 = h5.v ∧ f 6 = h416.v ∧ f 8 = h479.v ∧ f 29 = h209.v ∧ f 30 = iV (x210.length : Int) ∧ f 31 = iV x481 ∧ St w0 (imm (rI .i64) h209.v x210 :: ros) (box b4 26 [h2.v] :: row 4 rB h5.v x478 :: row 22 (rS (rI .i64)) h416.v x417 :: row 3 (rI .i64) h479.v x480 :: rs) w) go36 ⟨_, _, _, _, _, rfl, rfl, e27_2, e27_5, rfl, rfl, rfl, rfl, rfl, (hst.pk 5 [3, 3, 1, 0] rfl)⟩ ?_
  rintro _ _ w r36_ ⟨x478, x480, x481, f, h479, rfl, rfl, e36_2, e36_5, e36_6, e36_8, e36_29, e36_30, e36_31, hst⟩ hM36 ho36 Q100036 n36 zz36
  refine seqQ fun Q284 k284 z284 => wR (Y wn rfl (ylss (et rfl e36_31) (et rfl e36_30)) (wN (k284 _ _ (seqQ fun Q285 k285 z285 => ?_))))
  rcases iteS hM36 with ⟨c550, hM36⟩ | ⟨c550, hM36⟩
  ·refine condT (e0 rfl) (dT c550) (wp_skip (k285 _ _ (seqQ fun Q286 k286 z286 => blockQ fun Q287 qb287 => seqQ fun Q288 k288 z288 => wR ?_)))
   obtain ⟨x551, gx551, hM36⟩ := bs hM36
   refine Y wn rfl (yIa SL_22 (et rfl e36_29) (et rfl e36_31) hst (rdI mhF) gx551) (Y wn rfl (yI O_3 (e0 rfl) hst (rdI mhF) gx551) (Y wn rfl (ya (v := iV x551) (e0 rfl)) (wN (k288 _ _ (seqQ fun Q289 k289 z289 => wR (Y wn rfl (yFb FL_26_0 (et rfl e36_2)) (Y wn rfl (yLb (u := h2.v) O_24 (e0 rfl) hst mhR rfl) (Y wn rfl (ym (v := iV x551) (e0 rfl)) ?_))))))))
   obtain ⟨x552, gx552, hM36⟩ := bs hM36
   refine Y wn rfl (yIa SL_24 (e0 rfl) (e0 rfl) hst (rdI (mtF q1)) gx552) ?_
   obtain ⟨h553, hst⟩ := iLs hst (mtF q1) gx552
   refine Y wn rfl (yCt O_22 (e0 rfl) hst (mtF mhF) rfl) (Y wn rfl (yLen SL_22 (e0 rfl) hst (rdI mhF)) (Y wn rfl (ym (v := iV 0) rfl) (wN (k289 _ _ (blockQ fun Q290 qb290 => ?_)))))
   obtain ⟨o39, go39, hM36⟩ := bs hM36
   have je39_0 : ∀ (x592 : List Bool) (x594 : List Int) (h593 : Hdr) (f : Nat → Value) (w : World), f 2 = (pB b4) → f 5 = h5.v → f 6 = h416.v → f 8 = h593.v → f 29 = h209.v → f 30 = iV (x210.length : Int) → f 31 = iV x481 → St w0 (imm (rI .i64) h209.v x210 :: ros) (box b4 26 [h2.v] :: row 4 rB h5.v x592 :: row 22 (rS (rI .i64)) h416.v x417 :: row 3 (rI .i64) h593.v x594 :: rs) w → (x592, x594) = o39 → Q290 (.exit 4) (fr 63 f) w := by
    intro x592 x594 h593 f w eje39_0_2 eje39_0_5 eje39_0_6 eje39_0_8 eje39_0_29 eje39_0_30 eje39_0_31 hst ho
    subst ho
    refine qb290 _ _ _ (qb287 _ _ _ (k286 _ _ (wR (Y wn rfl (yadd (et rfl eje39_0_31) rfl) (Y wn rfl (ym (v := iV (wa .i64 x481 1)) (e0 rfl)) (wN ?_))))))
    obtain rfl := someI hM36
    exact n36 _ _ _ rfl ⟨_, _, _, _, _, rfl, rfl, eje39_0_2, eje39_0_5, eje39_0_6, eje39_0_8, eje39_0_29, eje39_0_30, rfl, hst⟩
   refine loopQ (fun s a w => ∃ (x569 : List Bool) (x571 : List Int) (x572 : Int) (f : Nat → Value) (h570 : Hdr), (x569, x571, x572) = s ∧ a = fr 63 f ∧ f 2 = (pB b4) ∧ f 5 = h5.v ∧ f 6 = h416.v ∧ f 8 = h570.v ∧ f 29 = h209.v ∧ f 30 = iV (x210.length : Int) ∧ f 31 = iV x481 ∧ f 39 = h553.v ∧ f 40 = iV (x552.length : Int) ∧ f 41 = iV x572 ∧ St w0 (imm (rI .i64) h209.v x210 :: imm (rI .i64) h553.v x552 :: ros) (box b4 26 [h2.v] :: row 4 rB h5.v x569 :: row 22 (rS (rI .i64)) h416.v x417 :: row 3 (rI .i64) h570.v x571 :: rs) w) go39 ⟨_, _, _, _, _, rfl, rfl, e36_2, e36_5, e36_6, e36_8, e36_29, e36_30, e36_31, rfl, rfl, rfl, (hst.facts (allC (mtF (mtF mhF)) (allC mhF (allT (allT (allT allI))))))⟩ ?_
   rintro _ _ w r39_ ⟨x569, x571, x572, f, h570, rfl, rfl, e39_2, e39_5, e39_6, e39_8, e39_29, e39_30, e39_31, e39_39, e39_40, e39_41, hst⟩ hM39 ho39 Q100039 n39 zz39
   refine seqQ fun Q307 k307 z307 => wR (Y wn rfl (ylss (et rfl e39_41) (et rfl e39_40)) (wN (k307 _ _ (seqQ fun Q308 k308 z308 => ?_))))
   rcases iteS hM39 with ⟨c595, hM39⟩ | ⟨c595, hM39⟩
   ·refine condT (e0 rfl) (dT c595) (wp_skip (k308 _ _ (seqQ fun Q309 k309 z309 => blockQ fun Q310 qb310 => seqQ fun Q311 k311 z311 => wR ?_)))
    obtain ⟨x596, gx596, hM39⟩ := bs hM39
    refine Y wn rfl (yIa SL_22 (et rfl e39_39) (et rfl e39_41) hst (rdI (mtF mhF)) gx596) (Y wn rfl (yI O_3 (e0 rfl) hst (rdI (mtF mhF)) gx596) (Y wn rfl (ya (v := iV x596) (e0 rfl)) (wN (k311 _ _ (seqQ fun Q312 k312 z312 => wR (Y wn rfl (ym (v := h5.v) (et rfl e39_5)) (Y wn rfl (ym (v := iV x596) (e0 rfl)) ?_)))))))
    obtain ⟨x597, gx597, hM39⟩ := bs hM39
    refine Y wn rfl (yIa SL_93 (e0 rfl) (e0 rfl) hst (rdO (mtR mhR)) gx597) (Y wn rfl (yB O_4 (e0 rfl) hst (rdO (mtR mhR)) gx597) (Y wn rfl (ynot (e0 rfl)) (wN (k312 _ _ ?_))))
    have j40 : ∀ (x602 : List Bool) (x604 : List Int) (h603 : Hdr) (f : Nat → Value) (w : World), f 2 = (pB b4) → f 5 = h5.v → f 6 = h416.v → f 8 = h603.v → f 29 = h209.v → f 30 = iV (x210.length : Int) → f 31 = iV x481 → f 39 = h553.v → f 40 = iV (x552.length : Int) → f 41 = iV x572 → St w0 (imm (rI .i64) h209.v x210 :: imm (rI .i64) h553.v x552 :: ros) (box b4 26 [h2.v] :: row 4 rB h5.v x602 :: row 22 (rS (rI .i64)) h416.v x417 :: row 3 (rI .i64) h603.v x604 :: rs) w → graph_levels_j40 x572 x602 x604 = some r39_ → Q310 .normal (fr 63 f) w := by
     intro x602 x604 h603 f w ej40_2 ej40_5 ej40_6 ej40_8 ej40_29 ej40_30 ej40_31 ej40_39 ej40_40 ej40_41 hst hM
     refine qb310 _ _ _ (k309 _ _ (wR (Y wn rfl (yadd (et rfl ej40_41) rfl) (Y wn rfl (ym (v := iV (wa .i64 x572 1)) (e0 rfl)) (wN ?_)))))
     obtain rfl := someI hM
     exact n39 _ _ _ rfl ⟨_, _, _, _, _, rfl, rfl, ej40_2, ej40_5, ej40_6, ej40_8, ej40_29, ej40_30, ej40_31, ej40_39, ej40_40, rfl, hst⟩
    rcases iteS hM39 with ⟨c605, hM39⟩ | ⟨c605, hM39⟩
    ·exact condF (e0 rfl) (nF c605) (wp_skip (j40 _ _ _ _ _ e39_2 e39_5 e39_6 e39_8 e39_29 e39_30 e39_31 e39_39 e39_40 e39_41 hst hM39))
    ·refine condT (e0 rfl) (nT (bfalse c605)) (seqQ fun Q314 k314 z314 => wR (Y wn rfl (ym (v := h5.v) (et rfl e39_5)) (Y wn rfl (ym (v := iV x596) (e0 rfl)) ?_)))
     obtain ⟨x606, gx606, hM39⟩ := bs hM39
     refine Y wn rfl (yIs SL_93 (e0 rfl) (e0 rfl) hst (rdO (mtR mhR)) gx606) ?_
     replace hst := hst.pk 2 [1, 0] rfl
     refine YT wn rfl (r_sti (cs := [.bool true]) hst O_4 rfl (e0 rfl) rfl rfl mkB gx606) ?_
     intro w hst
     refine wN (k314 _ _ (wR (Y wn rfl (ym (v := h570.v) (et rfl e39_8)) (Y wn rfl (ym (v := iV x596) (e0 rfl)) (YH wn rfl (rLt (n := 1) (l := [x596]) hst SL_22 [iV x596] (bp1 (e0 rfl)) rfl rfl (mks1 (cs := [iV x596]) rfl mkI mks0)) ?_)))))
     intro h607 w hst
     obtain ⟨x609, gx609, hM39⟩ := bs hM39
     replace hst := hst.pk 5 [4, 0, 0, 0, 0] rfl
     refine YH wn rfl (rAp hst SL_22 (e0 rfl) (e0 rfl) (rdO (mtR mhR)) gx609) ?_
     intro h608 w hst
     exact Y wn rfl (ya (v := h608.v) (e0 rfl)) (wN (j40 _ _ _ _ _ e39_2 e39_5 e39_6 rfl e39_29 e39_30 e39_31 e39_39 e39_40 e39_41 (hst.pk 5 [3, 2, 2, 0] rfl) hM39))
   ·refine condF (e0 rfl) (dF c595) (wp_exit (z308 _ _ _ rfl ?_))
    obtain rfl := someI hM39
    exact zz39 _ _ _ _ rfl rfl (je39_0 _ _ _ _ _ e39_2 e39_5 e39_6 e39_8 e39_29 e39_30 e39_31 (hst.facts (allC mhF (allT (allT allI)))) (ho39 _ rfl))
  ·refine condF (e0 rfl) (dF c550) (wp_exit (z285 _ _ _ rfl ?_))
   obtain rfl := someI hM36
   exact zz36 _ _ _ _ rfl rfl (je36_0 _ _ _ _ _ e36_2 e36_5 e36_6 e36_8 (hst.facts (allT allI)) (ho36 _ rfl))
 ·refine condF (e0 rfl) (dF c414) (wp_exit (z213 _ _ _ rfl ?_))
  obtain rfl := someI hM27
  exact zz27 _ _ _ _ rfl rfl (je27_0 _ _ _ _ e27_6 (hst.pk 4 [2] rfl) (ho27 _ rfl))

theorem slices_Grow_int_ok {x1 : Int} {out : (List Int)} (hM : slices_Grow_int x1 = some out) (hst : St w0 ros (rs) w) :
  Calls Tryz.prog 119 #[hnil.v, iV x1] w (fun e w => ∃ (h100001 : Hdr), e = .returned (h100001.v) ∧ St w0 (ros) (row 3 (rI .i64) h100001.v out :: rs) w) := by
 refine enterQ Tryz.func119 rfl Tryz.ntmps119 rfl fun Q hQ => seqQ fun Q1 k1 z1 => wR (Y wn rfl (ya (v := hnil.v) rfl) (wN (k1 _ _ (seqQ fun Q2 k2 z2 => seqQ fun Q3 k3 z3 => wR (Y wn rfl (ym (v := iV x1) (e0 rfl)) (Y wn rfl (ylss (e0 rfl) rfl) (wN (k3 _ _ ?_))))))))
 have j1 : ∀ (f : Nat → Value) (w : World), f 0 = hnil.v → f 1 = iV x1 → St w0 (ros) (rs) w → slices_Grow_int_j1 x1 = some out → Q2 .normal (fr 27 f) w := by
  intro f w ej1_0 ej1_1 hst hM
  refine k2 _ _ (seqQ fun Q4 k4 z4 => seqQ fun Q5 k5 z5 => wR (Y wn rfl (ym (v := iV x1) (et rfl ej1_1)) (Y wn rfl (ym (v := hnil.v) (et rfl ej1_0)) (Y wn rfl (yCapN (by kernel_rfl : Tryz.prog.underlying 22 = some (.slice 3)) (e0 rfl)) (Y wn rfl (ym (v := hnil.v) (et rfl ej1_0)) (Y wn rfl (yLen SL_22 (e0 rfl) hst rdN) (Y wn rfl (ysub (e0 rfl) (e0 rfl)) (Y wn rfl (ysub (e0 rfl) (e0 rfl)) (Y wn rfl (ya (v := iV (ws .i64 x1 (ws .i64 0 0))) (e0 rfl)) (wN (k5 _ _ ?_)))))))))))
  refine seqQ fun Q6 k6 z6 => wR (Y wn rfl (ym (v := iV (ws .i64 x1 (ws .i64 0 0))) (e0 rfl)) (Y wn rfl (ygtr (e0 rfl) rfl) (wN (k6 _ _ ?_))))
  have j2 : ∀ (x7 : List Int) (h6 : Hdr) (f : Nat → Value) (w : World), f 0 = h6.v → St w0 (ros) (row 3 (rI .i64) h6.v x7 :: rs) w → slices_Grow_int_j2 x7 = some out → Q4 .normal (fr 27 f) w := by
   intro x7 h6 f w ej2_0 hst hM
   refine k4 _ _ (seqQ fun Q7 k7 z7 => wR (Y wn rfl (ym (v := h6.v) (et rfl ej2_0)) (Y wn rfl (ya (v := h6.v) (e0 rfl)) (wN (k7 _ _ (wp_ret ?_))))))
   obtain rfl := someI hM
   exact hQ _ _ _ (fin1r Tryz.results119 ⟨rfl, rfl⟩ ⟨_, rfl, hst⟩)
  rcases iteS hM with ⟨c8, hM⟩ | ⟨c8, hM⟩
  ·refine condT (e0 rfl) (dT c8) (wR (Y wn rfl (ym (v := hnil.v) (et rfl ej1_0)) (Y wn rfl (ym (v := hnil.v) (et rfl ej1_0)) (Y wn rfl (yCapN (by kernel_rfl : Tryz.prog.underlying 22 = some (.slice 3)) (e0 rfl)) (Y wn rfl (ySlN SL_22 (e0 rfl) (e0 rfl)) (Y wn rfl (ym (v := iV (ws .i64 x1 (ws .i64 0 0))) (e0 rfl)) ?_))))))
   obtain ⟨x10, gx10, hM⟩ := bs hM
   refine YH wn rfl (rZn hst SL_22 (by kernel_rfl : Tryz.prog.underlying 3 = some (.int .i64)) (e0 rfl) (e0 rfl) gx10) ?_
   intro h9 w hst
   refine Y wn rfl (ym (v := hnil.v) (et rfl ej1_0)) (Y wn rfl (yLen SL_22 (e0 rfl) hst rdN) ?_)
   obtain ⟨x11, gx11, hM⟩ := bs hM
   refine Y wn rfl (ySl (k1 := .i64) (hi := (0 : Int)) SL_22 (e0 rfl) hst (rdO mhR) (.inr ⟨rfl, rfl⟩) (.inl (congrArg some (e0 rfl))) gx11) ?_
   obtain ⟨h12, eh12, hst⟩ := hst.resl gx11
   rw [← eh12]
   exact Y wn rfl (ya (v := h12.v) (e0 rfl)) (wN (j2 _ _ _ _ rfl hst hM))
  ·refine condF (e0 rfl) (dF c8) (wp_skip ?_)
   replace hst := hst.rowNh 3 (rI .i64)
   exact j2 _ _ _ _ ej1_0 hst hM
 rcases iteS hM with ⟨c13, hM⟩ | ⟨c13, hM⟩
 ·refine condT (e0 rfl) (dT c13) ?_
  cases hM
 ·exact condF (e0 rfl) (dF c13) (wp_skip (j1 _ _ rfl rfl hst hM))
end Go.Proofs.YthpeajepbffinaaGreat
