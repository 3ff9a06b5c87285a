/- Walks: each function computes its model, printed. -/
import Derived.Test.YtoelidgkfpmgnaaW1
namespace Go.Proofs.Ytoelidgkfpmgnaa
open Go Sx M
set_option maxRecDepth 100000
set_option maxHeartbeats 400000
set_option linter.unusedVariables false
attribute [local irreducible] wpList Code.wp Calls DR QR QS LA LS St
theorem sparselaw19_EtreeLists_ok {w0 : World} {ros : List Fact} {rs : List Res} {w : World} {x1 : List Int} {h2 : Hdr} {out : Bool} (hM : sparselaw19_EtreeLists x1 = some out) (q1 : imm (rI .i64) h2.v x1 ∈ ros) (hst : St w0 ros (rs) w) :
    Calls Try.prog 4 #[h2.v] w (fun e w => e = .returned (.bool out) ∧ St w0 (ros) (rs) w) := by
  refine enterQ Try.func4 rfl Try.ntmps4 rfl fun Q hQ => ?_
  refine seqQ fun Q1 k1 z1 => ?_
  refine wp_region_lit ?_
  refine Y wn rfl (ya (v := .bool false) rfl) ?_
  refine wpList_nil ?_
  refine k1 _ _ ?_
  refine seqQ fun Q2 k2 z2 => ?_
  refine seqQ fun Q3 k3 z3 => ?_
  refine wp_region_lit ?_
  refine Y wn rfl (ym (v := h2.v) (et rfl rfl)) ?_
  refine Y wn rfl (yLen SL_22 (et rfl rfl) hst (rdI q1)) ?_
  refine Y wn rfl (ygtr (et rfl rfl) rfl) ?_
  refine Y wn rfl (ym (v := .bool (decide ((20 : Int) < (x1.length : Int)))) (et rfl rfl)) ?_
  refine joinW 4 (fun f w => f 0 = h2.v ∧ f 23 = .bool ((decide ((20 : Int) < (x1.length : Int))) && (decide ((x1.length : Int) ≤ 200))) ∧ St w0 (ros) (rs) w) (fun j1 => ?_) ?_
  · rcases Bool.eq_false_or_eq_true (decide ((20 : Int) < (x1.length : Int))) with c4 | c4
    · refine Y (wg rfl rfl rfl c4) rfl (ym (v := h2.v) (et rfl rfl)) ?_
      refine Y (wg rfl rfl rfl c4) rfl (yLen SL_22 (et rfl rfl) hst (rdI q1)) ?_
      refine Y (wg rfl rfl rfl c4) rfl (yleq (et rfl rfl) rfl) ?_
      refine Y wn rfl (ypt (v := .bool (decide ((x1.length : Int) ≤ 200))) (et rfl rfl) c4 (et rfl rfl)) ?_
      exact j1 _ _ ⟨rfl, (congrArg Value.bool (andT c4)), hst⟩
    · refine Gn (wx rfl rfl rfl c4) rfl ?_
      refine Gn (wx rfl rfl rfl c4) rfl ?_
      refine Gn (wx rfl rfl rfl c4) rfl ?_
      refine Y wn rfl (ypf (v := .bool false) (et rfl rfl) c4 rfl) ?_
      exact j1 _ _ ⟨rfl, (congrArg Value.bool (andF c4)), hst⟩
  clear hst
  rintro f w ⟨e3_0, e3_23, hst⟩
  refine Y wn rfl (ym (v := .bool ((decide ((20 : Int) < (x1.length : Int))) && (decide ((x1.length : Int) ≤ 200)))) (et rfl e3_23)) ?_
  refine joinW 4 (fun f w => f 0 = h2.v ∧ f 28 = .bool (((decide ((20 : Int) < (x1.length : Int))) && (decide ((x1.length : Int) ≤ 200))) || (decide ((400 : Int) < (x1.length : Int)))) ∧ St w0 (ros) (rs) w) (fun j2 => ?_) ?_
  · rcases Bool.eq_false_or_eq_true (((decide ((20 : Int) < (x1.length : Int))) && (decide ((x1.length : Int) ≤ 200)))) with c6 | c6
    · refine Gn (wx rfl rfl rfl c6) rfl ?_
      refine Gn (wx rfl rfl rfl c6) rfl ?_
      refine Gn (wx rfl rfl rfl c6) rfl ?_
      refine Y wn rfl (ypt (v := .bool true) (et rfl rfl) c6 rfl) ?_
      exact j2 _ _ ⟨e3_0, (congrArg Value.bool (orT c6)), hst⟩
    · refine Y (wg rfl rfl rfl c6) rfl (ym (v := h2.v) (et rfl e3_0)) ?_
      refine Y (wg rfl rfl rfl c6) rfl (yLen SL_22 (et rfl rfl) hst (rdI q1)) ?_
      refine Y (wg rfl rfl rfl c6) rfl (ygtr (et rfl rfl) rfl) ?_
      refine Y wn rfl (ypf (v := .bool (decide ((400 : Int) < (x1.length : Int)))) (et rfl rfl) c6 (et rfl rfl)) ?_
      exact j2 _ _ ⟨e3_0, (congrArg Value.bool (orF c6)), hst⟩
  clear hst
  rintro f w ⟨e5_0, e5_28, hst⟩
  refine wpList_nil ?_
  refine k3 _ _ ?_
  rcases iteS hM with ⟨c7, hM⟩ | ⟨c7, hM⟩
  · refine condT (et rfl e5_28) c7 ?_
    refine seqQ fun Q4 k4 z4 => ?_
    refine wp_region_lit ?_
    obtain ⟨r8, gr8, hM⟩ := bs hM
    refine Yc wn rfl (yCall FN_10 a0) (sparselaw19_awake_ok (hM := gr8) (hst := hst) ) ?_
    clear hst
    rintro _ w ⟨rfl, hst⟩
    refine ⟨_, rfl, ?_⟩
    refine Y wn rfl (ya (v := .bool r8) (et rfl rfl)) ?_
    refine wpList_nil ?_
    refine k4 _ _ ?_
    refine wp_ret ?_
    refine z2 _ _ _ rfl ?_
    obtain rfl := someI hM
    exact hQ _ _ _ (fin1r Try.results4 ⟨rfl, rfl⟩ ⟨rfl, hst⟩)
  · refine condF (et rfl e5_28) (bfalse c7) ?_
    refine wp_skip ?_
    refine k2 _ _ ?_
    refine seqQ fun Q5 k5 z5 => ?_
    refine wp_region_lit ?_
    refine Y wn rfl (ym (v := h2.v) (et rfl e5_0)) ?_
    obtain ⟨r9, gr9, hM⟩ := bs hM
    refine Yc wn rfl (yCall FN_16 (a1 (et rfl rfl))) (sparsekit_TwinInts_ok (hM := gr9) (hst := hst) (q1 := q1)) ?_
    clear hst
    rintro _ w ⟨h10, rfl, hst⟩
    refine ⟨_, rfl, ?_⟩
    refine Y wn rfl (ya (v := h10.v) (et rfl rfl)) ?_
    refine wpList_nil ?_
    refine k5 _ _ ?_
    refine seqQ fun Q6 k6 z6 => ?_
    refine wp_region_lit ?_
    refine Y wn rfl (ym (v := h10.v) (et rfl rfl)) ?_
    obtain ⟨r11, gr11, hM⟩ := bs hM
    replace hst := hst.fz
    refine Yc wn rfl (yCall FN_17 (a1 (et rfl rfl))) (etree_Postorder_ok (hM := gr11) (hst := hst) (q1 := mhF)) ?_
    clear hst
    rintro _ w ⟨h12, rfl, hst⟩
    refine ⟨_, rfl, ?_⟩
    refine Y wn rfl (ym (v := .tuple #[h12.v, .int .i64 r11.2]) (et rfl rfl)) ?_
    refine Y wn rfl (yx (v := h12.v) (et rfl rfl) rfl) ?_
    refine Y wn rfl (yx (v := .int .i64 r11.2) (et rfl rfl) rfl) ?_
    refine Y wn rfl (ya (v := h12.v) (et rfl rfl)) ?_
    refine Y wn rfl (ya (v := .int .i64 r11.2) (et rfl rfl)) ?_
    refine wpList_nil ?_
    refine k6 _ _ ?_
    refine seqQ fun Q7 k7 z7 => ?_
    refine wp_region_lit ?_
    refine Y wn rfl (ym (v := h2.v) (et rfl e5_0)) ?_
    obtain ⟨r13, gr13, hM⟩ := bs hM
    refine Yc wn rfl (yCall FN_18 (a1 (et rfl rfl))) (sparseref19_Postorder_ok (hM := gr13) (hst := hst) (q1 := (mtF q1))) ?_
    clear hst
    rintro _ w ⟨h14, rfl, hst⟩
    refine ⟨_, rfl, ?_⟩
    refine Y wn rfl (ym (v := .tuple #[h14.v, .int .i64 r13.2]) (et rfl rfl)) ?_
    refine Y wn rfl (yx (v := h14.v) (et rfl rfl) rfl) ?_
    refine Y wn rfl (yx (v := .int .i64 r13.2) (et rfl rfl) rfl) ?_
    refine Y wn rfl (ya (v := h14.v) (et rfl rfl)) ?_
    refine Y wn rfl (ya (v := .int .i64 r13.2) (et rfl rfl)) ?_
    refine wpList_nil ?_
    refine k7 _ _ ?_
    refine seqQ fun Q8 k8 z8 => ?_
    refine wp_region_lit ?_
    refine Y wn rfl (ym (v := h10.v) (et rfl rfl)) ?_
    obtain ⟨r15, gr15, hM⟩ := bs hM
    refine Yc wn rfl (yCall FN_19 (a1 (et rfl rfl))) (etree_Depths_ok (hM := gr15) (hst := hst) (q1 := mhF)) ?_
    clear hst
    rintro _ w ⟨h16, rfl, hst⟩
    refine ⟨_, rfl, ?_⟩
    refine Y wn rfl (ym (v := .tuple #[h16.v, .int .i64 r15.2]) (et rfl rfl)) ?_
    refine Y wn rfl (yx (v := h16.v) (et rfl rfl) rfl) ?_
    refine Y wn rfl (yx (v := .int .i64 r15.2) (et rfl rfl) rfl) ?_
    refine Y wn rfl (ya (v := h16.v) (et rfl rfl)) ?_
    refine Y wn rfl (ya (v := .int .i64 r15.2) (et rfl rfl)) ?_
    refine wpList_nil ?_
    refine k8 _ _ ?_
    refine seqQ fun Q9 k9 z9 => ?_
    refine wp_region_lit ?_
    refine Y wn rfl (ym (v := h2.v) (et rfl e5_0)) ?_
    obtain ⟨r17, gr17, hM⟩ := bs hM
    refine Yc wn rfl (yCall FN_20 (a1 (et rfl rfl))) (sparseref19_Depths_ok (hM := gr17) (hst := hst) (q1 := (mtF q1))) ?_
    clear hst
    rintro _ w ⟨h18, rfl, hst⟩
    refine ⟨_, rfl, ?_⟩
    refine Y wn rfl (ym (v := .tuple #[h18.v, .int .i64 r17.2]) (et rfl rfl)) ?_
    refine Y wn rfl (yx (v := h18.v) (et rfl rfl) rfl) ?_
    refine Y wn rfl (yx (v := .int .i64 r17.2) (et rfl rfl) rfl) ?_
    refine Y wn rfl (ya (v := h18.v) (et rfl rfl)) ?_
    refine Y wn rfl (ya (v := .int .i64 r17.2) (et rfl rfl)) ?_
    refine wpList_nil ?_
    refine k9 _ _ ?_
    refine seqQ fun Q10 k10 z10 => ?_
    refine wp_region_lit ?_
    refine Y wn rfl (ym (v := h10.v) (et rfl rfl)) ?_
    obtain ⟨r19, gr19, hM⟩ := bs hM
    refine Yc wn rfl (yCall FN_21 (a1 (et rfl rfl))) (etree_Sizes_ok (hM := gr19) (hst := hst) (q1 := mhF)) ?_
    clear hst
    rintro _ w ⟨h20, rfl, hst⟩
    refine ⟨_, rfl, ?_⟩
    refine Y wn rfl (ym (v := .tuple #[h20.v, .int .i64 r19.2]) (et rfl rfl)) ?_
    refine Y wn rfl (yx (v := h20.v) (et rfl rfl) rfl) ?_
    refine Y wn rfl (yx (v := .int .i64 r19.2) (et rfl rfl) rfl) ?_
    refine Y wn rfl (ya (v := h20.v) (et rfl rfl)) ?_
    refine Y wn rfl (ya (v := .int .i64 r19.2) (et rfl rfl)) ?_
    refine wpList_nil ?_
    refine k10 _ _ ?_
    refine seqQ fun Q11 k11 z11 => ?_
    refine wp_region_lit ?_
    refine Y wn rfl (ym (v := h2.v) (et rfl e5_0)) ?_
    obtain ⟨r21, gr21, hM⟩ := bs hM
    refine Yc wn rfl (yCall FN_22 (a1 (et rfl rfl))) (sparseref19_Sizes_ok (hM := gr21) (hst := hst) (q1 := (mtF q1))) ?_
    clear hst
    rintro _ w ⟨h22, rfl, hst⟩
    refine ⟨_, rfl, ?_⟩
    refine Y wn rfl (ym (v := .tuple #[h22.v, .int .i64 r21.2]) (et rfl rfl)) ?_
    refine Y wn rfl (yx (v := h22.v) (et rfl rfl) rfl) ?_
    refine Y wn rfl (yx (v := .int .i64 r21.2) (et rfl rfl) rfl) ?_
    refine Y wn rfl (ya (v := h22.v) (et rfl rfl)) ?_
    refine Y wn rfl (ya (v := .int .i64 r21.2) (et rfl rfl)) ?_
    refine wpList_nil ?_
    refine k11 _ _ ?_
    refine seqQ fun Q12 k12 z12 => ?_
    refine wp_region_lit ?_
    refine Y wn rfl (ym (v := h10.v) (et rfl rfl)) ?_
    obtain ⟨r23, gr23, hM⟩ := bs hM
    refine Yc wn rfl (yCall FN_14 (a1 (et rfl rfl))) (etree_Check_ok (hM := gr23) (hst := hst) (q1 := mhF)) ?_
    clear hst
    rintro _ w ⟨rfl, hst⟩
    refine ⟨_, rfl, ?_⟩
    refine Y wn rfl (ym (v := h2.v) (et rfl e5_0)) ?_
    obtain ⟨r24, gr24, hM⟩ := bs hM
    refine Yc wn rfl (yCall FN_15 (a1 (et rfl rfl))) (sparseref19_Check_ok (hM := gr24) (hst := hst) (q1 := (mtF q1))) ?_
    clear hst
    rintro _ w ⟨rfl, hst⟩
    refine ⟨_, rfl, ?_⟩
    refine Y wn rfl (yeql (et rfl rfl) (et rfl rfl)) ?_
    refine Y wn rfl (ym (v := .bool (decide (r23 = r24))) (et rfl rfl)) ?_
    obtain ⟨r26, gr26, hM⟩ := bs hM
    refine joinW 4 (fun f w => f 0 = h2.v ∧ f 3 = h10.v ∧ f 5 = .int .i64 r11.2 ∧ f 7 = .int .i64 r13.2 ∧ f 8 = h16.v ∧ f 9 = .int .i64 r15.2 ∧ f 10 = h18.v ∧ f 11 = .int .i64 r17.2 ∧ f 12 = h20.v ∧ f 13 = .int .i64 r19.2 ∧ f 14 = h22.v ∧ f 15 = .int .i64 r21.2 ∧ f 71 = .bool r26 ∧ St w0 (imm (rI .i64) h10.v r9 :: ros) (row 3 (rI .i64) h16.v r15.1 :: row 3 (rI .i64) h18.v r17.1 :: row 3 (rI .i64) h20.v r19.1 :: row 3 (rI .i64) h22.v r21.1 :: rs) w) (fun j3 => ?_) ?_
    · rcases iteS gr26 with ⟨c28, gr26⟩ | ⟨c28, gr26⟩
      · refine Y (wg rfl rfl rfl (decide_eq_true c28)) rfl (ym (v := h12.v) (et rfl rfl)) ?_
        refine Y (wg rfl rfl rfl (decide_eq_true c28)) rfl (ym (v := h14.v) (et rfl rfl)) ?_
        obtain ⟨r29, gr29, gr26⟩ := bs gr26
        replace hst := hst.pk 6 [5, 0, 0, 0, 0, 0] rfl
        replace hst := hst.fz
        replace hst := hst.pk 5 [4, 0, 0, 0, 0] rfl
        replace hst := hst.fz
        refine Yc (wg rfl rfl rfl (decide_eq_true c28)) rfl (yCall FN_23 (a2 (et rfl rfl) (et rfl rfl))) (sparsekit_Ints_ok (hM := gr29) (hst := hst) (q1 := (mtF mhF)) (q2 := mhF)) ?_
        clear hst
        rintro _ w ⟨rfl, hst⟩
        refine ⟨_, rfl, ?_⟩
        refine Y wn rfl (ypt (v := .bool r29) (et rfl rfl) (decide_eq_true c28) (et rfl rfl)) ?_
        obtain rfl := someI gr26
        exact j3 _ _ ⟨e5_0, rfl, rfl, rfl, rfl, rfl, rfl, rfl, rfl, rfl, rfl, rfl, rfl, ((hst.pk 4 [3, 2, 1, 0] rfl).facts (allC (mtF (mtF mhF)) (allT (allT (allT allI)))))⟩
      · refine Gn (wx rfl rfl rfl (decide_eq_false c28)) rfl ?_
        refine Gn (wx rfl rfl rfl (decide_eq_false c28)) rfl ?_
        refine Gn (wx rfl rfl rfl (decide_eq_false c28)) rfl ?_
        refine Y wn rfl (ypf (v := .bool false) (et rfl rfl) (decide_eq_false c28) rfl) ?_
        obtain rfl := someI gr26
        exact j3 _ _ ⟨e5_0, rfl, rfl, rfl, rfl, rfl, rfl, rfl, rfl, rfl, rfl, rfl, rfl, (hst.pk 6 [3, 2, 1, 0] rfl)⟩
    clear hst
    rintro f w ⟨e27_0, e27_3, e27_5, e27_7, e27_8, e27_9, e27_10, e27_11, e27_12, e27_13, e27_14, e27_15, e27_71, hst⟩
    refine Y wn rfl (ym (v := .bool r26) (et rfl e27_71)) ?_
    refine joinW 4 (fun f w => f 0 = h2.v ∧ f 3 = h10.v ∧ f 8 = h16.v ∧ f 9 = .int .i64 r15.2 ∧ f 10 = h18.v ∧ f 11 = .int .i64 r17.2 ∧ f 12 = h20.v ∧ f 13 = .int .i64 r19.2 ∧ f 14 = h22.v ∧ f 15 = .int .i64 r21.2 ∧ f 76 = .bool (r26 && (decide (r11.2 = r13.2))) ∧ St w0 (imm (rI .i64) h10.v r9 :: ros) (row 3 (rI .i64) h16.v r15.1 :: row 3 (rI .i64) h18.v r17.1 :: row 3 (rI .i64) h20.v r19.1 :: row 3 (rI .i64) h22.v r21.1 :: rs) w) (fun j4 => ?_) ?_
    · rcases Bool.eq_false_or_eq_true (r26) with c31 | c31
      · refine Y (wg rfl rfl rfl c31) rfl (ym (v := .int .i64 r11.2) (et rfl e27_5)) ?_
        refine Y (wg rfl rfl rfl c31) rfl (ym (v := .int .i64 r13.2) (et rfl e27_7)) ?_
        refine Y (wg rfl rfl rfl c31) rfl (yeql (et rfl rfl) (et rfl rfl)) ?_
        refine Y wn rfl (ypt (v := .bool (decide (r11.2 = r13.2))) (et rfl rfl) c31 (et rfl rfl)) ?_
        exact j4 _ _ ⟨e27_0, e27_3, e27_8, e27_9, e27_10, e27_11, e27_12, e27_13, e27_14, e27_15, (congrArg Value.bool (andT c31)), hst⟩
      · refine Gn (wx rfl rfl rfl c31) rfl ?_
        refine Gn (wx rfl rfl rfl c31) rfl ?_
        refine Gn (wx rfl rfl rfl c31) rfl ?_
        refine Y wn rfl (ypf (v := .bool false) (et rfl rfl) c31 rfl) ?_
        exact j4 _ _ ⟨e27_0, e27_3, e27_8, e27_9, e27_10, e27_11, e27_12, e27_13, e27_14, e27_15, (congrArg Value.bool (andF c31)), hst⟩
    clear hst
    rintro f w ⟨e30_0, e30_3, e30_8, e30_9, e30_10, e30_11, e30_12, e30_13, e30_14, e30_15, e30_76, hst⟩
    refine Y wn rfl (ym (v := .bool (r26 && (decide (r11.2 = r13.2)))) (et rfl e30_76)) ?_
    obtain ⟨r33, gr33, hM⟩ := bs hM
    refine joinW 4 (fun f w => f 0 = h2.v ∧ f 3 = h10.v ∧ f 9 = .int .i64 r15.2 ∧ f 11 = .int .i64 r17.2 ∧ f 12 = h20.v ∧ f 13 = .int .i64 r19.2 ∧ f 14 = h22.v ∧ f 15 = .int .i64 r21.2 ∧ f 81 = .bool r33 ∧ St w0 (imm (rI .i64) h10.v r9 :: ros) (row 3 (rI .i64) h20.v r19.1 :: row 3 (rI .i64) h22.v r21.1 :: rs) w) (fun j5 => ?_) ?_
    · rcases iteS gr33 with ⟨c35, gr33⟩ | ⟨c35, gr33⟩
      · refine Y (wg rfl rfl rfl c35) rfl (ym (v := h16.v) (et rfl e30_8)) ?_
        refine Y (wg rfl rfl rfl c35) rfl (ym (v := h18.v) (et rfl e30_10)) ?_
        obtain ⟨r36, gr36, gr33⟩ := bs gr33
        replace hst := hst.fz
        replace hst := hst.fz
        refine Yc (wg rfl rfl rfl c35) rfl (yCall FN_23 (a2 (et rfl rfl) (et rfl rfl))) (sparsekit_Ints_ok (hM := gr36) (hst := hst) (q1 := (mtF mhF)) (q2 := mhF)) ?_
        clear hst
        rintro _ w ⟨rfl, hst⟩
        refine ⟨_, rfl, ?_⟩
        refine Y wn rfl (ypt (v := .bool r36) (et rfl rfl) c35 (et rfl rfl)) ?_
        obtain rfl := someI gr33
        exact j5 _ _ ⟨e30_0, e30_3, e30_9, e30_11, e30_12, e30_13, e30_14, e30_15, rfl, (hst.facts (allC (mtF (mtF mhF)) (allT (allT (allT allI)))))⟩
      · refine Gn (wx rfl rfl rfl (bfalse c35)) rfl ?_
        refine Gn (wx rfl rfl rfl (bfalse c35)) rfl ?_
        refine Gn (wx rfl rfl rfl (bfalse c35)) rfl ?_
        refine Y wn rfl (ypf (v := .bool false) (et rfl rfl) (bfalse c35) rfl) ?_
        obtain rfl := someI gr33
        exact j5 _ _ ⟨e30_0, e30_3, e30_9, e30_11, e30_12, e30_13, e30_14, e30_15, rfl, (hst.pk 4 [2, 2] rfl)⟩
    clear hst
    rintro f w ⟨e34_0, e34_3, e34_9, e34_11, e34_12, e34_13, e34_14, e34_15, e34_81, hst⟩
    refine Y wn rfl (ym (v := .bool r33) (et rfl e34_81)) ?_
    refine joinW 4 (fun f w => f 0 = h2.v ∧ f 3 = h10.v ∧ f 12 = h20.v ∧ f 13 = .int .i64 r19.2 ∧ f 14 = h22.v ∧ f 15 = .int .i64 r21.2 ∧ f 86 = .bool (r33 && (decide (r15.2 = r17.2))) ∧ St w0 (imm (rI .i64) h10.v r9 :: ros) (row 3 (rI .i64) h20.v r19.1 :: row 3 (rI .i64) h22.v r21.1 :: rs) w) (fun j6 => ?_) ?_
    · rcases Bool.eq_false_or_eq_true (r33) with c38 | c38
      · refine Y (wg rfl rfl rfl c38) rfl (ym (v := .int .i64 r15.2) (et rfl e34_9)) ?_
        refine Y (wg rfl rfl rfl c38) rfl (ym (v := .int .i64 r17.2) (et rfl e34_11)) ?_
        refine Y (wg rfl rfl rfl c38) rfl (yeql (et rfl rfl) (et rfl rfl)) ?_
        refine Y wn rfl (ypt (v := .bool (decide (r15.2 = r17.2))) (et rfl rfl) c38 (et rfl rfl)) ?_
        exact j6 _ _ ⟨e34_0, e34_3, e34_12, e34_13, e34_14, e34_15, (congrArg Value.bool (andT c38)), hst⟩
      · refine Gn (wx rfl rfl rfl c38) rfl ?_
        refine Gn (wx rfl rfl rfl c38) rfl ?_
        refine Gn (wx rfl rfl rfl c38) rfl ?_
        refine Y wn rfl (ypf (v := .bool false) (et rfl rfl) c38 rfl) ?_
        exact j6 _ _ ⟨e34_0, e34_3, e34_12, e34_13, e34_14, e34_15, (congrArg Value.bool (andF c38)), hst⟩
    clear hst
    rintro f w ⟨e37_0, e37_3, e37_12, e37_13, e37_14, e37_15, e37_86, hst⟩
    refine Y wn rfl (ym (v := .bool (r33 && (decide (r15.2 = r17.2)))) (et rfl e37_86)) ?_
    obtain ⟨r40, gr40, hM⟩ := bs hM
    refine joinW 4 (fun f w => f 0 = h2.v ∧ f 3 = h10.v ∧ f 13 = .int .i64 r19.2 ∧ f 15 = .int .i64 r21.2 ∧ f 91 = .bool r40 ∧ St w0 (imm (rI .i64) h10.v r9 :: ros) (rs) w) (fun j7 => ?_) ?_
    · rcases iteS gr40 with ⟨c42, gr40⟩ | ⟨c42, gr40⟩
      · refine Y (wg rfl rfl rfl c42) rfl (ym (v := h20.v) (et rfl e37_12)) ?_
        refine Y (wg rfl rfl rfl c42) rfl (ym (v := h22.v) (et rfl e37_14)) ?_
        obtain ⟨r43, gr43, gr40⟩ := bs gr40
        replace hst := hst.fz
        replace hst := hst.fz
        refine Yc (wg rfl rfl rfl c42) rfl (yCall FN_23 (a2 (et rfl rfl) (et rfl rfl))) (sparsekit_Ints_ok (hM := gr43) (hst := hst) (q1 := (mtF mhF)) (q2 := mhF)) ?_
        clear hst
        rintro _ w ⟨rfl, hst⟩
        refine ⟨_, rfl, ?_⟩
        refine Y wn rfl (ypt (v := .bool r43) (et rfl rfl) c42 (et rfl rfl)) ?_
        obtain rfl := someI gr40
        exact j7 _ _ ⟨e37_0, e37_3, e37_13, e37_15, rfl, (hst.facts (allC (mtF (mtF mhF)) (allT (allT (allT allI)))))⟩
      · refine Gn (wx rfl rfl rfl (bfalse c42)) rfl ?_
        refine Gn (wx rfl rfl rfl (bfalse c42)) rfl ?_
        refine Gn (wx rfl rfl rfl (bfalse c42)) rfl ?_
        refine Y wn rfl (ypf (v := .bool false) (et rfl rfl) (bfalse c42) rfl) ?_
        obtain rfl := someI gr40
        exact j7 _ _ ⟨e37_0, e37_3, e37_13, e37_15, rfl, (hst.pk 2 [] rfl)⟩
    clear hst
    rintro f w ⟨e41_0, e41_3, e41_13, e41_15, e41_91, hst⟩
    refine Y wn rfl (ym (v := .bool r40) (et rfl e41_91)) ?_
    refine joinW 4 (fun f w => f 0 = h2.v ∧ f 3 = h10.v ∧ f 96 = .bool (r40 && (decide (r19.2 = r21.2))) ∧ St w0 (imm (rI .i64) h10.v r9 :: ros) (rs) w) (fun j8 => ?_) ?_
    · rcases Bool.eq_false_or_eq_true (r40) with c45 | c45
      · refine Y (wg rfl rfl rfl c45) rfl (ym (v := .int .i64 r19.2) (et rfl e41_13)) ?_
        refine Y (wg rfl rfl rfl c45) rfl (ym (v := .int .i64 r21.2) (et rfl e41_15)) ?_
        refine Y (wg rfl rfl rfl c45) rfl (yeql (et rfl rfl) (et rfl rfl)) ?_
        refine Y wn rfl (ypt (v := .bool (decide (r19.2 = r21.2))) (et rfl rfl) c45 (et rfl rfl)) ?_
        exact j8 _ _ ⟨e41_0, e41_3, (congrArg Value.bool (andT c45)), hst⟩
      · refine Gn (wx rfl rfl rfl c45) rfl ?_
        refine Gn (wx rfl rfl rfl c45) rfl ?_
        refine Gn (wx rfl rfl rfl c45) rfl ?_
        refine Y wn rfl (ypf (v := .bool false) (et rfl rfl) c45 rfl) ?_
        exact j8 _ _ ⟨e41_0, e41_3, (congrArg Value.bool (andF c45)), hst⟩
    clear hst
    rintro f w ⟨e44_0, e44_3, e44_96, hst⟩
    refine Y wn rfl (ym (v := .bool (r40 && (decide (r19.2 = r21.2)))) (et rfl e44_96)) ?_
    obtain ⟨r47, gr47, hM⟩ := bs hM
    refine joinW 4 (fun f w => f 101 = .bool r47 ∧ St w0 (ros) (rs) w) (fun j9 => ?_) ?_
    · rcases iteS gr47 with ⟨c49, gr47⟩ | ⟨c49, gr47⟩
      · refine Y (wg rfl rfl rfl c49) rfl (ym (v := h10.v) (et rfl e44_3)) ?_
        refine Y (wg rfl rfl rfl c49) rfl (ym (v := h2.v) (et rfl e44_0)) ?_
        obtain ⟨r50, gr50, gr47⟩ := bs gr47
        refine Yc (wg rfl rfl rfl c49) rfl (yCall FN_23 (a2 (et rfl rfl) (et rfl rfl))) (sparsekit_Ints_ok (hM := gr50) (hst := hst) (q1 := mhF) (q2 := (mtF q1))) ?_
        clear hst
        rintro _ w ⟨rfl, hst⟩
        refine ⟨_, rfl, ?_⟩
        refine Y wn rfl (ypt (v := .bool r50) (et rfl rfl) c49 (et rfl rfl)) ?_
        obtain rfl := someI gr47
        exact j9 _ _ ⟨rfl, (hst.facts (allT allI))⟩
      · refine Gn (wx rfl rfl rfl (bfalse c49)) rfl ?_
        refine Gn (wx rfl rfl rfl (bfalse c49)) rfl ?_
        refine Gn (wx rfl rfl rfl (bfalse c49)) rfl ?_
        refine Y wn rfl (ypf (v := .bool false) (et rfl rfl) (bfalse c49) rfl) ?_
        obtain rfl := someI gr47
        exact j9 _ _ ⟨rfl, (hst.facts (allT allI))⟩
    clear hst
    rintro f w ⟨e48_101, hst⟩
    refine Y wn rfl (ym (v := .bool r47) (et rfl e48_101)) ?_
    obtain ⟨r52, gr52, hM⟩ := bs hM
    refine joinW 2 (fun f w => f 104 = .bool r52 ∧ St w0 (ros) (rs) w) (fun j10 => ?_) ?_
    · rcases iteS gr52 with ⟨c54, gr52⟩ | ⟨c54, gr52⟩
      · obtain ⟨r55, gr55, gr52⟩ := bs gr52
        refine Yc (wg rfl rfl rfl c54) rfl (yCall FN_10 a0) (sparselaw19_awake_ok (hM := gr55) (hst := hst) ) ?_
        clear hst
        rintro _ w ⟨rfl, hst⟩
        refine ⟨_, rfl, ?_⟩
        refine Y wn rfl (ypt (v := .bool r55) (et rfl rfl) c54 (et rfl rfl)) ?_
        obtain rfl := someI gr52
        exact j10 _ _ ⟨rfl, hst⟩
      · refine Gn (wx rfl rfl rfl (bfalse c54)) rfl ?_
        refine Y wn rfl (ypf (v := .bool false) (et rfl rfl) (bfalse c54) rfl) ?_
        obtain rfl := someI gr52
        exact j10 _ _ ⟨rfl, hst⟩
    clear hst
    rintro f w ⟨e53_104, hst⟩
    refine Y wn rfl (ya (v := .bool r52) (et rfl e53_104)) ?_
    refine wpList_nil ?_
    refine k12 _ _ ?_
    refine wp_ret ?_
    obtain rfl := someI hM
    exact hQ _ _ _ (fin1r Try.results4 ⟨rfl, rfl⟩ ⟨rfl, hst⟩)

theorem sparsekit_Ascending_ok {w0 : World} {ros : List Fact} {rs : List Res} {w : World} {x1 : List Int} {h2 : Hdr} {out : Bool} (hM : sparsekit_Ascending x1 = some out) (q1 : imm (rI .i64) h2.v x1 ∈ ros) (hst : St w0 ros (rs) w) :
    Calls Try.prog 61 #[h2.v] w (fun e w => e = .returned (.bool out) ∧ St w0 (ros) (rs) w) := by
  refine enterQ Try.func61 rfl Try.ntmps61 rfl fun Q hQ => ?_
  refine seqQ fun Q1 k1 z1 => ?_
  refine wp_region_lit ?_
  refine Y wn rfl (ya (v := .bool false) rfl) ?_
  refine wpList_nil ?_
  refine k1 _ _ ?_
  refine seqQ fun Q2 k2 z2 => ?_
  refine seqQ fun Q3 k3 z3 => ?_
  refine wp_region_lit ?_
  refine Y wn rfl (ya (v := .int .i64 1) rfl) ?_
  refine wpList_nil ?_
  refine k3 _ _ ?_
  refine blockQ fun Q4 q4 => ?_
  obtain ⟨o1, go1, hM⟩ := bs hM
  have je1_0 : ∀ (f : Nat → Value) (w : World), St w0 (ros) (rs) w → .inl () = o1 → Q4 (.exit 0) (fr 20 f) w := by
    intro f w hst ho
    subst ho
    refine q4 _ _ _ ?_
    refine k2 _ _ ?_
    refine seqQ fun Q17 k17 z17 => ?_
    refine wp_region_lit ?_
    refine Y wn rfl (ya (v := .bool true) rfl) ?_
    refine wpList_nil ?_
    refine k17 _ _ ?_
    refine wp_ret ?_
    obtain rfl := someI hM
    exact hQ _ _ _ (fin1r Try.results61 ⟨rfl, rfl⟩ ⟨rfl, hst⟩)
  have je1_1 : ∀ (f : Nat → Value) (w : World), f 2 = .bool false → St w0 (ros) (rs) w → .inr () = o1 → Q4 .ret (fr 20 f) w := by
    intro f w eje1_1_2 hst ho
    subst ho
    refine q4 _ _ _ ?_
    refine z2 _ _ _ rfl ?_
    obtain rfl := someI hM
    exact hQ _ _ _ (fin1r Try.results61 ⟨rfl, eje1_1_2⟩ ⟨rfl, hst⟩)
  refine loopQ (fun s a w => ∃ (x7 : Int) (f : Nat → Value), x7 = s ∧ a = fr 20 f ∧ f 0 = h2.v ∧ f 3 = .int .i64 x7 ∧ St w0 (ros) (rs) w) go1 ⟨_, _, rfl, rfl, rfl, rfl, hst⟩ ?_
  clear hst
  rintro _ _ w r1_ ⟨x7, f, rfl, rfl, e1_0, e1_3, hst⟩ hM1 ho1 Q100001 n1 zz1
  refine seqQ fun Q18 k18 z18 => ?_
  refine seqQ fun Q19 k19 z19 => ?_
  refine wp_region_lit ?_
  refine Y wn rfl (ym (v := .int .i64 x7) (et rfl e1_3)) ?_
  refine Y wn rfl (ym (v := h2.v) (et rfl e1_0)) ?_
  refine Y wn rfl (yLen SL_22 (et rfl rfl) hst (rdI q1)) ?_
  refine Y wn rfl (ylss (et rfl rfl) (et rfl rfl)) ?_
  refine wpList_nil ?_
  refine k19 _ _ ?_
  rcases iteS hM1 with ⟨c13, hM1⟩ | ⟨c13, hM1⟩
  · refine condT (et rfl rfl) (decide_eq_true c13) ?_
    refine wp_skip ?_
    refine k18 _ _ ?_
    refine seqQ fun Q20 k20 z20 => ?_
    refine blockQ fun Q21 q21 => ?_
    refine seqQ fun Q22 k22 z22 => ?_
    obtain ⟨x14, gx14, hM1⟩ := bs hM1
    obtain ⟨x15, gx15, hM1⟩ := bs hM1
    refine wp_drawR [0, 0, 3, 7, 0, 0, 32, 112, 240, 511] [] 0 folM (by kernel_rfl) (by kernel_rfl) (by kernel_rfl) ?_
    replace hst := hst.drew
    refine DRz (l1 := [0, 1, 2, 3, 4, 5, 6, 7, 8, 9]) (l2 := []) (by kernel_rfl) (by kernel_rfl) ?_
    refine Ry rfl rfl wn (ym (v := h2.v) (et rfl e1_0)) ?_
    refine Ry rfl rfl wn (ym (v := .int .i64 x7) (et rfl e1_3)) ?_
    refine Ry rfl rfl wn (yIa SL_22 (et rfl rfl) (et rfl rfl) hst (rdI q1) gx14) ?_
    refine Ry rfl rfl wn (yI O_3 (et rfl rfl) hst (rdI q1) gx14) ?_
    refine Ry rfl rfl wn (ym (v := h2.v) (et rfl e1_0)) ?_
    refine Ry rfl rfl wn (ym (v := .int .i64 x7) (et rfl e1_3)) ?_
    refine Ry rfl rfl wn (ysub (et rfl rfl) rfl) ?_
    refine Ry rfl rfl wn (yIa SL_22 (et rfl rfl) (et rfl rfl) hst (rdI q1) gx15) ?_
    refine Ry rfl rfl wn (yI O_3 (et rfl rfl) hst (rdI q1) gx15) ?_
    refine Ry rfl rfl wn (yleq (et rfl rfl) (et rfl rfl)) ?_
    refine Rn QSn ?_
    refine k22 _ _ ?_
    rcases iteS hM1 with ⟨c16, hM1⟩ | ⟨c16, hM1⟩
    · refine condT (et rfl rfl) (decide_eq_true c16) ?_
      refine seqQ fun Q23 k23 z23 => ?_
      refine wp_region_lit ?_
      refine Y wn rfl (ya (v := .bool false) rfl) ?_
      refine wpList_nil ?_
      refine k23 _ _ ?_
      refine wp_ret ?_
      refine q21 _ _ _ ?_
      refine z20 _ _ _ rfl ?_
      obtain rfl := someI hM1
      refine zz1 _ _ _ _ rfl rfl ?_
      exact je1_1 _ _ rfl hst (ho1 _ rfl)
    · refine condF (et rfl rfl) (decide_eq_false c16) ?_
      refine wp_skip ?_
      refine q21 _ _ _ ?_
      refine k20 _ _ ?_
      refine wp_region_lit ?_
      refine Y wn rfl (ym (v := .int .i64 x7) (et rfl e1_3)) ?_
      refine Y wn rfl (yadd (et rfl rfl) rfl) ?_
      refine Y wn rfl (ya (v := .int .i64 (wa .i64 x7 1)) (et rfl rfl)) ?_
      refine wpList_nil ?_
      obtain rfl := someI hM1
      exact n1 _ _ _ rfl ⟨_, _, rfl, rfl, e1_0, rfl, hst⟩
  · refine condF (et rfl rfl) (decide_eq_false c13) ?_
    refine wp_exit ?_
    refine z18 _ _ _ rfl ?_
    obtain rfl := someI hM1
    refine zz1 _ _ _ _ rfl rfl ?_
    exact je1_0 _ _ hst (ho1 _ rfl)

theorem sparsekit_In_ok {w0 : World} {ros : List Fact} {rs : List Res} {w : World} {x1 : List Int} {x3 : Int} {h2 : Hdr} {out : Bool} (hM : sparsekit_In x1 x3 = some out) (q1 : imm (rI .i64) h2.v x1 ∈ ros) (hst : St w0 ros (rs) w) :
    Calls Try.prog 62 #[h2.v, .int .i64 x3] w (fun e w => e = .returned (.bool out) ∧ St w0 (ros) (rs) w) := by
  refine enterQ Try.func62 rfl Try.ntmps62 rfl fun Q hQ => ?_
  refine seqQ fun Q1 k1 z1 => ?_
  refine wp_region_lit ?_
  refine Y wn rfl (ya (v := .bool false) rfl) ?_
  refine wpList_nil ?_
  refine k1 _ _ ?_
  refine seqQ fun Q2 k2 z2 => ?_
  refine seqQ fun Q3 k3 z3 => ?_
  refine wp_region_lit ?_
  refine Y wn rfl (ya (v := .int .i64 0) rfl) ?_
  refine wpList_nil ?_
  refine k3 _ _ ?_
  refine blockQ fun Q4 q4 => ?_
  obtain ⟨o1, go1, hM⟩ := bs hM
  have je1_0 : ∀ (f : Nat → Value) (w : World), St w0 (ros) (rs) w → .inl () = o1 → Q4 (.exit 0) (fr 18 f) w := by
    intro f w hst ho
    subst ho
    refine q4 _ _ _ ?_
    refine k2 _ _ ?_
    refine seqQ fun Q17 k17 z17 => ?_
    refine wp_region_lit ?_
    refine Y wn rfl (ya (v := .bool false) rfl) ?_
    refine wpList_nil ?_
    refine k17 _ _ ?_
    refine wp_ret ?_
    obtain rfl := someI hM
    exact hQ _ _ _ (fin1r Try.results62 ⟨rfl, rfl⟩ ⟨rfl, hst⟩)
  have je1_1 : ∀ (f : Nat → Value) (w : World), f 4 = .bool true → St w0 (ros) (rs) w → .inr () = o1 → Q4 .ret (fr 18 f) w := by
    intro f w eje1_1_4 hst ho
    subst ho
    refine q4 _ _ _ ?_
    refine z2 _ _ _ rfl ?_
    obtain rfl := someI hM
    exact hQ _ _ _ (fin1r Try.results62 ⟨rfl, eje1_1_4⟩ ⟨rfl, hst⟩)
  refine loopQ (fun s a w => ∃ (x7 : Int) (f : Nat → Value), x7 = s ∧ a = fr 18 f ∧ f 0 = h2.v ∧ f 1 = .int .i64 x3 ∧ f 5 = .int .i64 x7 ∧ St w0 (ros) (rs) w) go1 ⟨_, _, rfl, rfl, rfl, rfl, rfl, hst⟩ ?_
  clear hst
  rintro _ _ w r1_ ⟨x7, f, rfl, rfl, e1_0, e1_1, e1_5, hst⟩ hM1 ho1 Q100001 n1 zz1
  refine seqQ fun Q18 k18 z18 => ?_
  refine seqQ fun Q19 k19 z19 => ?_
  refine wp_region_lit ?_
  refine Y wn rfl (ym (v := .int .i64 x7) (et rfl e1_5)) ?_
  refine Y wn rfl (ym (v := h2.v) (et rfl e1_0)) ?_
  refine Y wn rfl (yLen SL_22 (et rfl rfl) hst (rdI q1)) ?_
  refine Y wn rfl (ylss (et rfl rfl) (et rfl rfl)) ?_
  refine wpList_nil ?_
  refine k19 _ _ ?_
  rcases iteS hM1 with ⟨c12, hM1⟩ | ⟨c12, hM1⟩
  · refine condT (et rfl rfl) (decide_eq_true c12) ?_
    refine wp_skip ?_
    refine k18 _ _ ?_
    refine seqQ fun Q20 k20 z20 => ?_
    refine blockQ fun Q21 q21 => ?_
    refine seqQ fun Q22 k22 z22 => ?_
    refine wp_region_lit ?_
    refine Y wn rfl (ym (v := h2.v) (et rfl e1_0)) ?_
    refine Y wn rfl (ym (v := .int .i64 x7) (et rfl e1_5)) ?_
    obtain ⟨x13, gx13, hM1⟩ := bs hM1
    refine Y wn rfl (yIa SL_22 (et rfl rfl) (et rfl rfl) hst (rdI q1) gx13) ?_
    refine Y wn rfl (yI O_3 (et rfl rfl) hst (rdI q1) gx13) ?_
    refine Y wn rfl (ym (v := .int .i64 x3) (et rfl e1_1)) ?_
    refine Y wn rfl (yeql (et rfl rfl) (et rfl rfl)) ?_
    refine wpList_nil ?_
    refine k22 _ _ ?_
    rcases iteS hM1 with ⟨c14, hM1⟩ | ⟨c14, hM1⟩
    · refine condT (et rfl rfl) (decide_eq_true c14) ?_
      refine seqQ fun Q23 k23 z23 => ?_
      refine wp_region_lit ?_
      refine Y wn rfl (ya (v := .bool true) rfl) ?_
      refine wpList_nil ?_
      refine k23 _ _ ?_
      refine wp_ret ?_
      refine q21 _ _ _ ?_
      refine z20 _ _ _ rfl ?_
      obtain rfl := someI hM1
      refine zz1 _ _ _ _ rfl rfl ?_
      exact je1_1 _ _ rfl hst (ho1 _ rfl)
    · refine condF (et rfl rfl) (decide_eq_false c14) ?_
      refine wp_skip ?_
      refine q21 _ _ _ ?_
      refine k20 _ _ ?_
      refine wp_region_lit ?_
      refine Y wn rfl (ym (v := .int .i64 x7) (et rfl e1_5)) ?_
      refine Y wn rfl (yadd (et rfl rfl) rfl) ?_
      refine Y wn rfl (ya (v := .int .i64 (wa .i64 x7 1)) (et rfl rfl)) ?_
      refine wpList_nil ?_
      obtain rfl := someI hM1
      exact n1 _ _ _ rfl ⟨_, _, rfl, rfl, e1_0, e1_1, rfl, hst⟩
  · refine condF (et rfl rfl) (decide_eq_false c12) ?_
    refine wp_exit ?_
    refine z18 _ _ _ rfl ?_
    obtain rfl := someI hM1
    refine zz1 _ _ _ _ rfl rfl ?_
    exact je1_0 _ _ hst (ho1 _ rfl)

theorem sparseref12_Check_ok {w0 : World} {ros : List Fact} {rs : List Res} {w : World} {x1 : List (List Int)} {h2 : Hdr} {out : Int} (hM : sparseref12_Check x1 = some out) (q1 : imm (rS (rI .i64)) h2.v x1 ∈ ros) (hst : St w0 ros (rs) w) :
    Calls Try.prog 43 #[.agg #[h2.v]] w (fun e w => e = .returned (.int .i64 out) ∧ St w0 (ros) (rs) w) := by
  refine enterQ Try.func43 rfl Try.ntmps43 rfl fun Q hQ => ?_
  refine seqQ fun Q1 k1 z1 => ?_
  refine wp_region_lit ?_
  refine YB wn rfl (r_box (vals := [h2.v]) hst (et rfl rfl) rfl) ?_
  clear hst
  intro b3 w hst
  refine Y wn rfl (ya (v := .int .i64 0) rfl) ?_
  refine wpList_nil ?_
  refine k1 _ _ ?_
  refine seqQ fun Q2 k2 z2 => ?_
  refine wp_region_lit ?_
  refine Y wn rfl (yFb FL_27_0 (et rfl rfl)) ?_
  refine Y wn rfl (yLb (u := h2.v) O_25 (et rfl rfl) hst mhR rfl) ?_
  refine Y wn rfl (yLen SL_25 (et rfl rfl) hst (rdI q1)) ?_
  refine Y wn rfl (ya (v := .int .i64 (x1.length : Int)) (et rfl rfl)) ?_
  refine wpList_nil ?_
  refine k2 _ _ ?_
  refine seqQ fun Q3 k3 z3 => ?_
  refine seqQ fun Q4 k4 z4 => ?_
  refine wp_region_lit ?_
  refine Y wn rfl (ym (v := .int .i64 (x1.length : Int)) (et rfl rfl)) ?_
  refine Y wn rfl (ygtr (et rfl rfl) rfl) ?_
  refine wpList_nil ?_
  refine k4 _ _ ?_
  rcases iteS hM with ⟨c4, hM⟩ | ⟨c4, hM⟩
  · refine condT (et rfl rfl) (decide_eq_true c4) ?_
    refine seqQ fun Q5 k5 z5 => ?_
    refine wp_region_lit ?_
    refine Y wn rfl (ya (v := .int .i64 6) rfl) ?_
    refine wpList_nil ?_
    refine k5 _ _ ?_
    refine wp_ret ?_
    refine z3 _ _ _ rfl ?_
    obtain rfl := someI hM
    exact hQ _ _ _ (fin1r Try.results43 ⟨rfl, rfl⟩ ⟨rfl, (hst.pk 1 [] rfl)⟩)
  · refine condF (et rfl rfl) (decide_eq_false c4) ?_
    refine wp_skip ?_
    refine k3 _ _ ?_
    refine seqQ fun Q6 k6 z6 => ?_
    refine seqQ fun Q7 k7 z7 => ?_
    refine wp_region_lit ?_
    refine Y wn rfl (ya (v := .int .i64 0) rfl) ?_
    refine wpList_nil ?_
    refine k7 _ _ ?_
    refine blockQ fun Q8 q8 => ?_
    obtain ⟨o21, go21, hM⟩ := bs hM
    have je21_0 : ∀ (f : Nat → Value) (w : World), St w0 (ros) (rs) w → .inl () = o21 → Q8 (.exit 0) (fr 64 f) w := by
      intro f w hst ho
      subst ho
      refine q8 _ _ _ ?_
      refine k6 _ _ ?_
      refine seqQ fun Q69 k69 z69 => ?_
      refine wp_region_lit ?_
      refine Y wn rfl (ya (v := .int .i64 0) rfl) ?_
      refine wpList_nil ?_
      refine k69 _ _ ?_
      refine wp_ret ?_
      obtain rfl := someI hM
      exact hQ _ _ _ (fin1r Try.results43 ⟨rfl, rfl⟩ ⟨rfl, hst⟩)
    have je21_1 : ∀ (f : Nat → Value) (w : World), f 2 = .int .i64 1 → St w0 (ros) (rs) w → .inr () = o21 → Q8 .ret (fr 64 f) w := by
      intro f w eje21_1_2 hst ho
      subst ho
      refine q8 _ _ _ ?_
      refine z6 _ _ _ rfl ?_
      obtain rfl := someI hM
      exact hQ _ _ _ (fin1r Try.results43 ⟨rfl, eje21_1_2⟩ ⟨rfl, hst⟩)
    refine loopQ (fun s a w => ∃ (x72 : Int) (f : Nat → Value), x72 = s ∧ a = fr 64 f ∧ f 1 = .pointer (some ⟨b3, 0, none⟩) ∧ f 3 = .int .i64 (x1.length : Int) ∧ f 4 = .int .i64 x72 ∧ St w0 (ros) (box b3 27 [h2.v] :: rs) w) go21 ⟨_, _, rfl, rfl, rfl, rfl, rfl, hst⟩ ?_
    clear hst
    rintro _ _ w r21_ ⟨x72, f, rfl, rfl, e21_1, e21_3, e21_4, hst⟩ hM21 ho21 Q100021 n21 zz21
    refine seqQ fun Q70 k70 z70 => ?_
    refine seqQ fun Q71 k71 z71 => ?_
    refine wp_region_lit ?_
    refine Y wn rfl (ym (v := .int .i64 x72) (et rfl e21_4)) ?_
    refine Y wn rfl (ym (v := .int .i64 (x1.length : Int)) (et rfl e21_3)) ?_
    refine Y wn rfl (ylss (et rfl rfl) (et rfl rfl)) ?_
    refine wpList_nil ?_
    refine k71 _ _ ?_
    rcases iteS hM21 with ⟨c141, hM21⟩ | ⟨c141, hM21⟩
    · refine condT (et rfl rfl) (decide_eq_true c141) ?_
      refine wp_skip ?_
      refine k70 _ _ ?_
      refine seqQ fun Q72 k72 z72 => ?_
      refine blockQ fun Q73 q73 => ?_
      refine seqQ fun Q74 k74 z74 => ?_
      refine seqQ fun Q75 k75 z75 => ?_
      refine wp_region_lit ?_
      refine Y wn rfl (yFb FL_27_0 (et rfl e21_1)) ?_
      refine Y wn rfl (yLb (u := h2.v) O_25 (et rfl rfl) hst mhR rfl) ?_
      refine Y wn rfl (ym (v := .int .i64 x72) (et rfl e21_4)) ?_
      obtain ⟨x142, gx142, hM21⟩ := bs hM21
      refine Y wn rfl (yIa SL_25 (et rfl rfl) (et rfl rfl) hst (rdI q1) gx142) ?_
      obtain ⟨h143, hst⟩ := iLs hst q1 gx142
      refine Y wn rfl (yCt O_22 (et rfl rfl) hst (mtF mhF) rfl) ?_
      obtain ⟨r144, gr144, hM21⟩ := bs hM21
      refine Yc wn rfl (yCall FN_61 (a1 (et rfl rfl))) (sparsekit_Ascending_ok (hM := gr144) (hst := hst) (q1 := mhF)) ?_
      clear hst
      rintro _ w ⟨rfl, hst⟩
      refine ⟨_, rfl, ?_⟩
      refine Y wn rfl (ynot (et rfl rfl)) ?_
      refine wpList_nil ?_
      refine k75 _ _ ?_
      rcases iteS hM21 with ⟨c145, hM21⟩ | ⟨c145, hM21⟩
      · refine condF (et rfl rfl) (nF c145) ?_
        refine wp_skip ?_
        refine k74 _ _ ?_
        refine seqQ fun Q76 k76 z76 => ?_
        refine wp_region_lit ?_
        refine Y wn rfl (ya (v := .int .i64 0) rfl) ?_
        refine wpList_nil ?_
        refine k76 _ _ ?_
        refine blockQ fun Q77 q77 => ?_
        obtain ⟨o28, go28, hM21⟩ := bs hM21
        have je28_0 : ∀ (f : Nat → Value) (w : World), f 1 = .pointer (some ⟨b3, 0, none⟩) → f 3 = .int .i64 (x1.length : Int) → f 4 = .int .i64 x72 → St w0 (ros) (box b3 27 [h2.v] :: rs) w → .inl () = o28 → Q77 (.exit 2) (fr 64 f) w := by
          intro f w eje28_0_1 eje28_0_3 eje28_0_4 hst ho
          subst ho
          refine q77 _ _ _ ?_
          refine q73 _ _ _ ?_
          refine k72 _ _ ?_
          refine wp_region_lit ?_
          refine Y wn rfl (ym (v := .int .i64 x72) (et rfl eje28_0_4)) ?_
          refine Y wn rfl (yadd (et rfl rfl) rfl) ?_
          refine Y wn rfl (ya (v := .int .i64 (wa .i64 x72 1)) (et rfl rfl)) ?_
          refine wpList_nil ?_
          obtain rfl := someI hM21
          exact n21 _ _ _ rfl ⟨_, _, rfl, rfl, eje28_0_1, eje28_0_3, rfl, hst⟩
        have je28_1 : ∀ (f : Nat → Value) (w : World), f 2 = .int .i64 1 → St w0 (ros) (rs) w → .inr () = o28 → Q77 .ret (fr 64 f) w := by
          intro f w eje28_1_2 hst ho
          subst ho
          refine q77 _ _ _ ?_
          refine q73 _ _ _ ?_
          refine z72 _ _ _ rfl ?_
          obtain rfl := someI hM21
          refine zz21 _ _ _ _ rfl rfl ?_
          exact je21_1 _ _ eje28_1_2 hst (ho21 _ rfl)
        refine loopQ (fun s a w => ∃ (x166 : Int) (f : Nat → Value), x166 = s ∧ a = fr 64 f ∧ f 1 = .pointer (some ⟨b3, 0, none⟩) ∧ f 3 = .int .i64 (x1.length : Int) ∧ f 4 = .int .i64 x72 ∧ f 5 = .int .i64 x166 ∧ St w0 (ros) (box b3 27 [h2.v] :: rs) w) go28 ⟨_, _, rfl, rfl, e21_1, e21_3, e21_4, rfl, (hst.facts (allT (allT allI)))⟩ ?_
        clear hst
        rintro _ _ w r28_ ⟨x166, f, rfl, rfl, e28_1, e28_3, e28_4, e28_5, hst⟩ hM28 ho28 Q100028 n28 zz28
        refine seqQ fun Q92 k92 z92 => ?_
        refine seqQ fun Q93 k93 z93 => ?_
        refine wp_region_lit ?_
        refine Y wn rfl (ym (v := .int .i64 x166) (et rfl e28_5)) ?_
        refine Y wn rfl (yFb FL_27_0 (et rfl e28_1)) ?_
        refine Y wn rfl (yLb (u := h2.v) O_25 (et rfl rfl) hst mhR rfl) ?_
        refine Y wn rfl (ym (v := .int .i64 x72) (et rfl e28_4)) ?_
        obtain ⟨x188, gx188, hM28⟩ := bs hM28
        refine Y wn rfl (yIa SL_25 (et rfl rfl) (et rfl rfl) hst (rdI q1) gx188) ?_
        obtain ⟨h189, hst⟩ := iLs hst q1 gx188
        refine Y wn rfl (yCt O_22 (et rfl rfl) hst (mtF mhF) rfl) ?_
        refine Y wn rfl (yLen SL_22 (et rfl rfl) hst (rdI mhF)) ?_
        refine Y wn rfl (ylss (et rfl rfl) (et rfl rfl)) ?_
        refine wpList_nil ?_
        refine k93 _ _ ?_
        rcases iteS hM28 with ⟨c190, hM28⟩ | ⟨c190, hM28⟩
        · refine condT (et rfl rfl) (decide_eq_true c190) ?_
          refine wp_skip ?_
          refine k92 _ _ ?_
          refine seqQ fun Q94 k94 z94 => ?_
          refine blockQ fun Q95 q95 => ?_
          refine seqQ fun Q96 k96 z96 => ?_
          refine wp_region_lit ?_
          refine Y wn rfl (yFb FL_27_0 (et rfl e28_1)) ?_
          refine Y wn rfl (yLb (u := h2.v) O_25 (et rfl rfl) hst mhR rfl) ?_
          refine Y wn rfl (ym (v := .int .i64 x72) (et rfl e28_4)) ?_
          obtain ⟨x191, gx191, hM28⟩ := bs hM28
          refine Y wn rfl (yIa SL_25 (et rfl rfl) (et rfl rfl) hst (rdI (mtF (mtF q1))) gx191) ?_
          obtain ⟨h192, hst⟩ := iLs hst (mtF (mtF q1)) gx191
          refine Y wn rfl (yCt O_22 (et rfl rfl) hst (mtF mhF) rfl) ?_
          refine Y wn rfl (ym (v := .int .i64 x166) (et rfl e28_5)) ?_
          obtain ⟨x193, gx193, hM28⟩ := bs hM28
          refine Y wn rfl (yIa SL_22 (et rfl rfl) (et rfl rfl) hst (rdI mhF) gx193) ?_
          refine Y wn rfl (yI O_3 (et rfl rfl) hst (rdI mhF) gx193) ?_
          refine Y wn rfl (ya (v := .int .i64 x193) (et rfl rfl)) ?_
          refine wpList_nil ?_
          refine k96 _ _ ?_
          refine seqQ fun Q97 k97 z97 => ?_
          refine wp_region_lit ?_
          refine Y wn rfl (ym (v := .int .i64 x193) (et rfl rfl)) ?_
          refine Y wn rfl (ylss (et rfl rfl) rfl) ?_
          refine Y wn rfl (ym (v := .bool (decide (x193 < 0))) (et rfl rfl)) ?_
          refine joinW 4 (fun f w => f 1 = .pointer (some ⟨b3, 0, none⟩) ∧ f 3 = .int .i64 (x1.length : Int) ∧ f 4 = .int .i64 x72 ∧ f 5 = .int .i64 x166 ∧ f 6 = .int .i64 x193 ∧ f 48 = .bool ((decide (x193 < 0)) || (decide ((x1.length : Int) ≤ x193))) ∧ St w0 (ros) (box b3 27 [h2.v] :: rs) w) (fun j29 => ?_) ?_
          · rcases Bool.eq_false_or_eq_true (decide (x193 < 0)) with c195 | c195
            · refine Gn (wx rfl rfl rfl c195) rfl ?_
              refine Gn (wx rfl rfl rfl c195) rfl ?_
              refine Gn (wx rfl rfl rfl c195) rfl ?_
              refine Y wn rfl (ypt (v := .bool true) (et rfl rfl) c195 rfl) ?_
              exact j29 _ _ ⟨e28_1, e28_3, e28_4, e28_5, rfl, (congrArg Value.bool (orT c195)), (hst.facts (allT (allT (allT (allT allI)))))⟩
            · refine Y (wg rfl rfl rfl c195) rfl (ym (v := .int .i64 x193) (et rfl rfl)) ?_
              refine Y (wg rfl rfl rfl c195) rfl (ym (v := .int .i64 (x1.length : Int)) (et rfl e28_3)) ?_
              refine Y (wg rfl rfl rfl c195) rfl (ygeq (et rfl rfl) (et rfl rfl)) ?_
              refine Y wn rfl (ypf (v := .bool (decide ((x1.length : Int) ≤ x193))) (et rfl rfl) c195 (et rfl rfl)) ?_
              exact j29 _ _ ⟨e28_1, e28_3, e28_4, e28_5, rfl, (congrArg Value.bool (orF c195)), (hst.facts (allT (allT (allT (allT allI)))))⟩
          clear hst
          rintro f w ⟨e194_1, e194_3, e194_4, e194_5, e194_6, e194_48, hst⟩
          refine Y wn rfl (ym (v := .bool ((decide (x193 < 0)) || (decide ((x1.length : Int) ≤ x193)))) (et rfl e194_48)) ?_
          refine joinW 4 (fun f w => f 1 = .pointer (some ⟨b3, 0, none⟩) ∧ f 3 = .int .i64 (x1.length : Int) ∧ f 4 = .int .i64 x72 ∧ f 5 = .int .i64 x166 ∧ f 6 = .int .i64 x193 ∧ f 53 = .bool (((decide (x193 < 0)) || (decide ((x1.length : Int) ≤ x193))) || (decide (x193 = x72))) ∧ St w0 (ros) (box b3 27 [h2.v] :: rs) w) (fun j30 => ?_) ?_
          · rcases Bool.eq_false_or_eq_true (((decide (x193 < 0)) || (decide ((x1.length : Int) ≤ x193)))) with c197 | c197
            · refine Gn (wx rfl rfl rfl c197) rfl ?_
              refine Gn (wx rfl rfl rfl c197) rfl ?_
              refine Gn (wx rfl rfl rfl c197) rfl ?_
              refine Y wn rfl (ypt (v := .bool true) (et rfl rfl) c197 rfl) ?_
              exact j30 _ _ ⟨e194_1, e194_3, e194_4, e194_5, e194_6, (congrArg Value.bool (orT c197)), hst⟩
            · refine Y (wg rfl rfl rfl c197) rfl (ym (v := .int .i64 x193) (et rfl e194_6)) ?_
              refine Y (wg rfl rfl rfl c197) rfl (ym (v := .int .i64 x72) (et rfl e194_4)) ?_
              refine Y (wg rfl rfl rfl c197) rfl (yeql (et rfl rfl) (et rfl rfl)) ?_
              refine Y wn rfl (ypf (v := .bool (decide (x193 = x72))) (et rfl rfl) c197 (et rfl rfl)) ?_
              exact j30 _ _ ⟨e194_1, e194_3, e194_4, e194_5, e194_6, (congrArg Value.bool (orF c197)), hst⟩
          clear hst
          rintro f w ⟨e196_1, e196_3, e196_4, e196_5, e196_6, e196_53, hst⟩
          refine Y wn rfl (ym (v := .bool (((decide (x193 < 0)) || (decide ((x1.length : Int) ≤ x193))) || (decide (x193 = x72)))) (et rfl e196_53)) ?_
          obtain ⟨r201, gr201, hM28⟩ := bs hM28
          refine joinW 9 (fun f w => f 1 = .pointer (some ⟨b3, 0, none⟩) ∧ f 3 = .int .i64 (x1.length : Int) ∧ f 4 = .int .i64 x72 ∧ f 5 = .int .i64 x166 ∧ f 63 = .bool r201 ∧ St w0 (ros) (box b3 27 [h2.v] :: rs) w) (fun j31 => ?_) ?_
          · rcases iteS gr201 with ⟨c203, gr201⟩ | ⟨c203, gr201⟩
            · refine Gn (wx rfl rfl rfl c203) rfl ?_
              refine Gn (wx rfl rfl rfl c203) rfl ?_
              refine Gn (wx rfl rfl rfl c203) rfl ?_
              refine Gn (wx rfl rfl rfl c203) rfl ?_
              refine Gn (wx rfl rfl rfl c203) rfl ?_
              refine Gn (wx rfl rfl rfl c203) rfl ?_
              refine Gn (wx rfl rfl rfl c203) rfl ?_
              refine Gn (wx rfl rfl rfl c203) rfl ?_
              refine Y wn rfl (ypt (v := .bool true) (et rfl rfl) c203 rfl) ?_
              obtain rfl := someI gr201
              exact j31 _ _ ⟨e196_1, e196_3, e196_4, e196_5, rfl, hst⟩
            · refine Y (wg rfl rfl rfl (bfalse c203)) rfl (yFb FL_27_0 (et rfl e196_1)) ?_
              refine Y (wg rfl rfl rfl (bfalse c203)) rfl (yLb (u := h2.v) O_25 (et rfl rfl) hst mhR rfl) ?_
              refine Y (wg rfl rfl rfl (bfalse c203)) rfl (ym (v := .int .i64 x193) (et rfl e196_6)) ?_
              obtain ⟨x204, gx204, gr201⟩ := bs gr201
              refine Y (wg rfl rfl rfl (bfalse c203)) rfl (yIa SL_25 (et rfl rfl) (et rfl rfl) hst (rdI q1) gx204) ?_
              obtain ⟨h205, hst⟩ := iLs hst q1 gx204
              refine Y (wg rfl rfl rfl (bfalse c203)) rfl (yCt O_22 (et rfl rfl) hst (mtF mhF) rfl) ?_
              refine Y (wg rfl rfl rfl (bfalse c203)) rfl (ym (v := .int .i64 x72) (et rfl e196_4)) ?_
              obtain ⟨r206, gr206, gr201⟩ := bs gr201
              refine Yc (wg rfl rfl rfl (bfalse c203)) rfl (yCall FN_62 (a2 (et rfl rfl) (et rfl rfl))) (sparsekit_In_ok (hM := gr206) (hst := hst) (q1 := mhF)) ?_
              clear hst
              rintro _ w ⟨rfl, hst⟩
              refine ⟨_, rfl, ?_⟩
              refine Y (wg rfl rfl rfl (bfalse c203)) rfl (ynot (et rfl rfl)) ?_
              refine Y wn rfl (ypf (v := .bool (!(r206))) (et rfl rfl) (bfalse c203) (et rfl rfl)) ?_
              obtain rfl := someI gr201
              exact j31 _ _ ⟨e196_1, e196_3, e196_4, e196_5, rfl, (hst.facts (allT (allT allI)))⟩
          clear hst
          rintro f w ⟨e202_1, e202_3, e202_4, e202_5, e202_63, hst⟩
          refine wpList_nil ?_
          refine k97 _ _ ?_
          rcases iteS hM28 with ⟨c207, hM28⟩ | ⟨c207, hM28⟩
          · refine condT (et rfl e202_63) c207 ?_
            refine seqQ fun Q98 k98 z98 => ?_
            refine wp_region_lit ?_
            refine Y wn rfl (ya (v := .int .i64 1) rfl) ?_
            refine wpList_nil ?_
            refine k98 _ _ ?_
            refine wp_ret ?_
            refine q95 _ _ _ ?_
            refine z94 _ _ _ rfl ?_
            obtain rfl := someI hM28
            refine zz28 _ _ _ _ rfl rfl ?_
            exact je28_1 _ _ rfl (hst.pk 1 [] rfl) (ho28 _ rfl)
          · refine condF (et rfl e202_63) (bfalse c207) ?_
            refine wp_skip ?_
            refine q95 _ _ _ ?_
            refine k94 _ _ ?_
            refine wp_region_lit ?_
            refine Y wn rfl (ym (v := .int .i64 x166) (et rfl e202_5)) ?_
            refine Y wn rfl (yadd (et rfl rfl) rfl) ?_
            refine Y wn rfl (ya (v := .int .i64 (wa .i64 x166 1)) (et rfl rfl)) ?_
            refine wpList_nil ?_
            obtain rfl := someI hM28
            exact n28 _ _ _ rfl ⟨_, _, rfl, rfl, e202_1, e202_3, e202_4, rfl, hst⟩
        · refine condF (et rfl rfl) (decide_eq_false c190) ?_
          refine wp_exit ?_
          refine z92 _ _ _ rfl ?_
          obtain rfl := someI hM28
          refine zz28 _ _ _ _ rfl rfl ?_
          exact je28_0 _ _ e28_1 e28_3 e28_4 (hst.facts (allT (allT allI))) (ho28 _ rfl)
      · refine condT (et rfl rfl) (nT (bfalse c145)) ?_
        refine seqQ fun Q99 k99 z99 => ?_
        refine wp_region_lit ?_
        refine Y wn rfl (ya (v := .int .i64 1) rfl) ?_
        refine wpList_nil ?_
        refine k99 _ _ ?_
        refine wp_ret ?_
        refine z74 _ _ _ rfl ?_
        refine q73 _ _ _ ?_
        refine z72 _ _ _ rfl ?_
        obtain rfl := someI hM21
        refine zz21 _ _ _ _ rfl rfl ?_
        exact je21_1 _ _ rfl ((hst.pk 1 [] rfl).facts (allT (allT allI))) (ho21 _ rfl)
    · refine condF (et rfl rfl) (decide_eq_false c141) ?_
      refine wp_exit ?_
      refine z70 _ _ _ rfl ?_
      obtain rfl := someI hM21
      refine zz21 _ _ _ _ rfl rfl ?_
      exact je21_0 _ _ (hst.pk 1 [] rfl) (ho21 _ rfl)

theorem sparseref12_Table_ok {w0 : World} {ros : List Fact} {rs : List Res} {w : World} {x1 : List (List Int)} {h2 : Hdr} {out : (List (List Bool))} (hM : sparseref12_Table x1 = some out) (q1 : imm (rS (rI .i64)) h2.v x1 ∈ ros) (hst : St w0 ros (rs) w) :
    Calls Try.prog 63 #[.agg #[h2.v]] w (fun e w => ∃ (h100001 : Hdr) (y100002 : List Hdr), e = .returned (h100001.v) ∧ St w0 (ros) (row 54 rH h100001.v y100002 :: fam 4 rB y100002 out :: rs) w) := by
  refine enterQ Try.func63 rfl Try.ntmps63 rfl fun Q hQ => ?_
  refine seqQ fun Q1 k1 z1 => ?_
  refine wp_region_lit ?_
  refine YB wn rfl (r_box (vals := [h2.v]) hst (et rfl rfl) rfl) ?_
  clear hst
  intro b3 w hst
  refine Y wn rfl (ya (v := hnil.v) rfl) ?_
  refine wpList_nil ?_
  refine k1 _ _ ?_
  refine seqQ fun Q2 k2 z2 => ?_
  refine wp_region_lit ?_
  refine Y wn rfl (yFb FL_27_0 (et rfl rfl)) ?_
  refine Y wn rfl (yLb (u := h2.v) O_25 (et rfl rfl) hst mhR rfl) ?_
  refine Y wn rfl (yLen SL_25 (et rfl rfl) hst (rdI q1)) ?_
  refine Y wn rfl (ya (v := .int .i64 (x1.length : Int)) (et rfl rfl)) ?_
  refine wpList_nil ?_
  refine k2 _ _ ?_
  refine seqQ fun Q3 k3 z3 => ?_
  refine wp_region_lit ?_
  refine Y wn rfl (ya (v := hnil.v) rfl) ?_
  refine wpList_nil ?_
  refine k3 _ _ ?_
  refine seqQ fun Q4 k4 z4 => ?_
  refine seqQ fun Q5 k5 z5 => ?_
  refine wp_region_lit ?_
  refine Y wn rfl (ya (v := .int .i64 0) rfl) ?_
  refine wpList_nil ?_
  refine k5 _ _ ?_
  refine blockQ fun Q6 q6 => ?_
  obtain ⟨o3, go3, hM⟩ := bs hM
  have je3_0 : ∀ (x84 : List (List Bool)) (h82 : Hdr) (y83 : List Hdr) (f : Nat → Value) (w : World), f 4 = h82.v → St w0 (ros) (row 54 rH h82.v y83 :: fam 4 rB y83 x84 :: rs) w → x84 = o3 → Q6 (.exit 0) (fr 43 f) w := by
    intro x84 h82 y83 f w eje3_0_4 hst ho
    subst ho
    refine q6 _ _ _ ?_
    refine k4 _ _ ?_
    refine seqQ fun Q47 k47 z47 => ?_
    refine wp_region_lit ?_
    refine Y wn rfl (ym (v := h82.v) (et rfl eje3_0_4)) ?_
    refine Y wn rfl (ya (v := h82.v) (et rfl rfl)) ?_
    refine wpList_nil ?_
    refine k47 _ _ ?_
    refine wp_ret ?_
    obtain rfl := someI hM
    exact hQ _ _ _ (fin1r Try.results63 ⟨rfl, rfl⟩ ⟨_, _, rfl, hst⟩)
  replace hst := ((hst.rowNh 54 rH).fNew 4 rB).pk 2 [1, 0] rfl
  refine loopQ (fun s a w => ∃ (x41 : List (List Bool)) (x42 : Int) (f : Nat → Value) (h39 : Hdr) (y40 : List Hdr), (x41, x42) = s ∧ a = fr 43 f ∧ f 1 = .pointer (some ⟨b3, 0, none⟩) ∧ f 3 = .int .i64 (x1.length : Int) ∧ f 4 = h39.v ∧ f 5 = .int .i64 x42 ∧ St w0 (ros) (box b3 27 [h2.v] :: row 54 rH h39.v y40 :: fam 4 rB y40 x41 :: rs) w) go3 ⟨_, _, _, _, _, rfl, rfl, rfl, rfl, rfl, rfl, (hst.pk 3 [2, 0, 0] rfl)⟩ ?_
  clear hst
  rintro _ _ w r3_ ⟨x41, x42, f, h39, y40, rfl, rfl, e3_1, e3_3, e3_4, e3_5, hst⟩ hM3 ho3 Q100003 n3 zz3
  refine seqQ fun Q48 k48 z48 => ?_
  refine seqQ fun Q49 k49 z49 => ?_
  refine wp_region_lit ?_
  refine Y wn rfl (ym (v := .int .i64 x42) (et rfl e3_5)) ?_
  refine Y wn rfl (ym (v := .int .i64 (x1.length : Int)) (et rfl e3_3)) ?_
  refine Y wn rfl (ylss (et rfl rfl) (et rfl rfl)) ?_
  refine wpList_nil ?_
  refine k49 _ _ ?_
  rcases iteS hM3 with ⟨c85, hM3⟩ | ⟨c85, hM3⟩
  · refine condT (et rfl rfl) (decide_eq_true c85) ?_
    refine wp_skip ?_
    refine k48 _ _ ?_
    refine seqQ fun Q50 k50 z50 => ?_
    refine blockQ fun Q51 q51 => ?_
    refine seqQ fun Q52 k52 z52 => ?_
    refine wp_region_lit ?_
    refine Y wn rfl (ym (v := .int .i64 (x1.length : Int)) (et rfl e3_3)) ?_
    obtain ⟨x88, gx88, hM3⟩ := bs hM3
    refine YH wn rfl (rMk hst SL_54 (et rfl rfl) gx88) ?_
    clear hst
    intro h86 w hst
    refine Y wn rfl (ya (v := h86.v) (et rfl rfl)) ?_
    refine wpList_nil ?_
    refine k52 _ _ ?_
    refine seqQ fun Q53 k53 z53 => ?_
    refine seqQ fun Q54 k54 z54 => ?_
    refine wp_region_lit ?_
    refine Y wn rfl (ya (v := .int .i64 0) rfl) ?_
    refine wpList_nil ?_
    refine k54 _ _ ?_
    refine blockQ fun Q55 q55 => ?_
    obtain ⟨o4, go4, hM3⟩ := bs hM3
    have je4_0 : ∀ (x107 : List Bool) (f : Nat → Value) (w : World), f 1 = .pointer (some ⟨b3, 0, none⟩) → f 3 = .int .i64 (x1.length : Int) → f 4 = h39.v → f 5 = .int .i64 x42 → f 6 = h86.v → St w0 (ros) (box b3 27 [h2.v] :: row 54 rH h39.v y40 :: fam 4 rB y40 x41 :: row 4 rB h86.v x107 :: rs) w → x107 = o4 → Q55 (.exit 2) (fr 43 f) w := by
      intro x107 f w eje4_0_1 eje4_0_3 eje4_0_4 eje4_0_5 eje4_0_6 hst ho
      subst ho
      refine q55 _ _ _ ?_
      refine k53 _ _ ?_
      refine wp_region_lit ?_
      refine Y wn rfl (ym (v := h39.v) (et rfl eje4_0_4)) ?_
      refine Y wn rfl (ym (v := h86.v) (et rfl eje4_0_6)) ?_
      refine YH wn rfl (rLt (n := 1) (l := [h86]) hst SLH_53 [h86.v] (bp1 (et rfl rfl)) rfl rfl (mks1 rfl (mkF rfl) mks0)) ?_
      clear hst
      intro h108 w hst
      obtain ⟨x111, gx111, hM3⟩ := bs hM3
      replace hst := hst.pk 3 [2, 0, 0] rfl
      obtain ⟨y112, ey112, gy112⟩ := app_rep gx111 (hst.famL (mtR (mtR (mtR mhR)))) (show [h86].length = [x107].length from rfl)
      refine YH wn rfl (rAp hst SLH_53 (et rfl rfl) (et rfl rfl) (rdO (mtR mhR)) gy112) ?_
      clear hst
      intro h110 w hst
      replace hst := hst.pk 5 [4, 3, 0, 0, 0] rfl
      replace hst := hst.fPush
      rw [← ey112, ← (app_some gx111).1] at hst
      refine Y wn rfl (ya (v := h110.v) (et rfl rfl)) ?_
      refine wpList_nil ?_
      refine q51 _ _ _ ?_
      refine k50 _ _ ?_
      refine wp_region_lit ?_
      refine Y wn rfl (ym (v := .int .i64 x42) (et rfl eje4_0_5)) ?_
      refine Y wn rfl (yadd (et rfl rfl) rfl) ?_
      refine Y wn rfl (ya (v := .int .i64 (wa .i64 x42 1)) (et rfl rfl)) ?_
      refine wpList_nil ?_
      obtain rfl := someI hM3
      exact n3 _ _ _ rfl ⟨_, _, _, _, _, rfl, rfl, eje4_0_1, eje4_0_3, rfl, rfl, (hst.pk 4 [3, 1, 0] rfl)⟩
    refine loopQ (fun s a w => ∃ (x96 : List Bool) (x97 : Int) (f : Nat → Value), (x96, x97) = s ∧ a = fr 43 f ∧ f 1 = .pointer (some ⟨b3, 0, none⟩) ∧ f 3 = .int .i64 (x1.length : Int) ∧ f 4 = h39.v ∧ f 5 = .int .i64 x42 ∧ f 6 = h86.v ∧ f 7 = .int .i64 x97 ∧ St w0 (ros) (box b3 27 [h2.v] :: row 54 rH h39.v y40 :: fam 4 rB y40 x41 :: row 4 rB h86.v x96 :: rs) w) go4 ⟨_, _, _, rfl, rfl, e3_1, e3_3, e3_4, e3_5, rfl, rfl, (hst.pk 4 [1, 1, 1, 0] rfl)⟩ ?_
    clear hst
    rintro _ _ w r4_ ⟨x96, x97, f, rfl, rfl, e4_1, e4_3, e4_4, e4_5, e4_6, e4_7, hst⟩ hM4 ho4 Q100004 n4 zz4
    refine seqQ fun Q64 k64 z64 => ?_
    refine seqQ fun Q65 k65 z65 => ?_
    refine wp_region_lit ?_
    refine Y wn rfl (ym (v := .int .i64 x97) (et rfl e4_7)) ?_
    refine Y wn rfl (yFb FL_27_0 (et rfl e4_1)) ?_
    refine Y wn rfl (yLb (u := h2.v) O_25 (et rfl rfl) hst mhR rfl) ?_
    refine Y wn rfl (ym (v := .int .i64 x42) (et rfl e4_5)) ?_
    obtain ⟨x113, gx113, hM4⟩ := bs hM4
    refine Y wn rfl (yIa SL_25 (et rfl rfl) (et rfl rfl) hst (rdI q1) gx113) ?_
    obtain ⟨h114, hst⟩ := iLs hst q1 gx113
    refine Y wn rfl (yCt O_22 (et rfl rfl) hst (mtF mhF) rfl) ?_
    refine Y wn rfl (yLen SL_22 (et rfl rfl) hst (rdI mhF)) ?_
    refine Y wn rfl (ylss (et rfl rfl) (et rfl rfl)) ?_
    refine wpList_nil ?_
    refine k65 _ _ ?_
    rcases iteS hM4 with ⟨c115, hM4⟩ | ⟨c115, hM4⟩
    · refine condT (et rfl rfl) (decide_eq_true c115) ?_
      refine wp_skip ?_
      refine k64 _ _ ?_
      refine seqQ fun Q66 k66 z66 => ?_
      refine blockQ fun Q67 q67 => ?_
      refine wp_region_lit ?_
      refine Y wn rfl (ym (v := h86.v) (et rfl e4_6)) ?_
      refine Y wn rfl (yFb FL_27_0 (et rfl e4_1)) ?_
      refine Y wn rfl (yLb (u := h2.v) O_25 (et rfl rfl) hst mhR rfl) ?_
      refine Y wn rfl (ym (v := .int .i64 x42) (et rfl e4_5)) ?_
      obtain ⟨x116, gx116, hM4⟩ := bs hM4
      refine Y wn rfl (yIa SL_25 (et rfl rfl) (et rfl rfl) hst (rdI (mtF (mtF q1))) gx116) ?_
      obtain ⟨h117, hst⟩ := iLs hst (mtF (mtF q1)) gx116
      refine Y wn rfl (yCt O_22 (et rfl rfl) hst (mtF mhF) rfl) ?_
      refine Y wn rfl (ym (v := .int .i64 x97) (et rfl e4_7)) ?_
      obtain ⟨x118, gx118, hM4⟩ := bs hM4
      refine Y wn rfl (yIa SL_22 (et rfl rfl) (et rfl rfl) hst (rdI mhF) gx118) ?_
      refine Y wn rfl (yI O_3 (et rfl rfl) hst (rdI mhF) gx118) ?_
      obtain ⟨x119, gx119, hM4⟩ := bs hM4
      refine Y wn rfl (yIs SL_54 (et rfl rfl) (et rfl rfl) hst (rdO (mtR (mtR (mtR mhR)))) gx119) ?_
      replace hst := hst.pk 4 [3, 0, 0, 0] rfl
      refine YT wn rfl (r_sti (cs := [.bool true]) hst O_4 rfl (et rfl rfl) rfl rfl mkB gx119) ?_
      clear hst
      intro w hst
      refine wpList_nil ?_
      refine q67 _ _ _ ?_
      refine k66 _ _ ?_
      refine wp_region_lit ?_
      refine Y wn rfl (ym (v := .int .i64 x97) (et rfl e4_7)) ?_
      refine Y wn rfl (yadd (et rfl rfl) rfl) ?_
      refine Y wn rfl (ya (v := .int .i64 (wa .i64 x97 1)) (et rfl rfl)) ?_
      refine wpList_nil ?_
      obtain rfl := someI hM4
      exact n4 _ _ _ rfl ⟨_, _, _, rfl, rfl, e4_1, e4_3, e4_4, e4_5, e4_6, rfl, ((hst.pk 4 [1, 1, 1, 0] rfl).facts (allT (allT (allT (allT allI)))))⟩
    · refine condF (et rfl rfl) (decide_eq_false c115) ?_
      refine wp_exit ?_
      refine z64 _ _ _ rfl ?_
      obtain rfl := someI hM4
      refine zz4 _ _ _ _ rfl rfl ?_
      exact je4_0 _ _ _ e4_1 e4_3 e4_4 e4_5 e4_6 (hst.facts (allT (allT allI))) (ho4 _ rfl)
  · refine condF (et rfl rfl) (decide_eq_false c85) ?_
    refine wp_exit ?_
    refine z48 _ _ _ rfl ?_
    obtain rfl := someI hM3
    refine zz3 _ _ _ _ rfl rfl ?_
    exact je3_0 _ _ _ _ _ e3_4 (hst.pk 3 [1, 1] rfl) (ho3 _ rfl)

theorem sparseref16_Begin_ok {w0 : World} {ros : List Fact} {rs : List Res} {w : World} {x1 : List (List Int)} {h2 : Hdr} {out : (List (List Bool)) × (List Bool)} (hM : sparseref16_Begin x1 = some out) (q1 : imm (rS (rI .i64)) h2.v x1 ∈ ros) (hst : St w0 ros (rs) w) :
    Calls Try.prog 44 #[.agg #[h2.v]] w (fun e w => ∃ (b100001 : Nat) (h100002 : Hdr) (y100003 : List Hdr) (h100005 : Hdr), e = .returned (.pointer (some ⟨b100001, 0, none⟩)) ∧ St w0 (ros) (row 54 rH h100002.v y100003 :: fam 4 rB y100003 out.1 :: row 4 rB h100005.v out.2 :: box b100001 89 [h100002.v, h100005.v] :: rs) w) := by
  refine enterQ Try.func44 rfl Try.ntmps44 rfl fun Q hQ => ?_
  refine seqQ fun Q1 k1 z1 => ?_
  refine wp_region_lit ?_
  refine YB wn rfl (r_box (vals := [h2.v]) hst (et rfl rfl) rfl) ?_
  clear hst
  intro b3 w hst
  refine Y wn rfl (ya (v := .pointer none) rfl) ?_
  refine wpList_nil ?_
  refine k1 _ _ ?_
  refine seqQ fun Q2 k2 z2 => ?_
  obtain ⟨r4, gr4, hM⟩ := bs hM
  obtain ⟨x9, gx9, hM⟩ := bs hM
  refine joinN (n := 11) (fun f w => ∃ (b11 : Nat) (h12 : Hdr) (y13 : List Hdr) (h14 : Hdr), f 2 = .pointer (some ⟨b11, 0, none⟩) ∧ St w0 (ros) (row 54 rH h12.v y13 :: fam 4 rB y13 r4 :: row 4 rB h14.v x9 :: box b11 89 [h12.v, h14.v] :: rs) w) (fun j1 => ?_) ?_
  · refine wp_drawR [0, 1, 0, 4, 12, 28, 63, 127, 255] [1, 5, 7, 8] 4 folM (by kernel_rfl) (by kernel_rfl) (by kernel_rfl) ?_
    replace hst := hst.drew
    refine DRn (l1 := [0, 2, 3, 4]) (l2 := []) (lc := [1, 5]) (by kernel_rfl) (by kernel_rfl) (by kernel_rfl) ?_
    refine Ry rfl rfl wn (yLbs (us := [h2.v]) ST_27 (et rfl rfl) hst mhR rfl rfl) ?_
    refine Ry rfl rfl wn (yFb FL_27_0 (et rfl rfl)) ?_
    refine Ry rfl rfl wn (yLb (u := h2.v) O_25 (et rfl rfl) hst mhR rfl) ?_
    refine Ry rfl rfl wn (yLen SL_25 (et rfl rfl) hst (rdI q1)) ?_
    refine Rn QSn ?_
    refine Lc rfl ?_ (Lc rfl ?_ LAn)
    · refine Lk wn (yCall FN_63 (a1 (et rfl rfl))) (sparseref12_Table_ok (hM := gr4) (hst := hst) (q1 := q1)) ?_
      clear hst
      rintro _ w ⟨h5, y6, rfl, hst⟩
      refine ⟨_, rfl, ?_⟩
      refine DRn (l1 := []) (l2 := [2, 3, 4]) (lc := [5]) (by kernel_rfl) (by kernel_rfl) (by kernel_rfl) ?_
      refine Rn (Sy rfl rfl wn (yFb FL_27_0 (et rfl rfl)) rfl (Sy rfl rfl wn (yLb (u := h2.v) O_25 (et rfl rfl) hst (mtR (mtR mhR)) rfl) rfl (Sy rfl rfl wn (yLen SL_25 (et rfl rfl) hst (rdI q1)) rfl QSn))) ?_
      refine Lc rfl ?_ LAn
      refine LH wn (rMk hst SL_54 (et rfl rfl) gx9) ?_
      clear hst
      intro h7 w hst
      refine DRn (l1 := [6]) (l2 := []) (lc := [7]) (by kernel_rfl) (by kernel_rfl) (by kernel_rfl) ?_
      refine Ry rfl rfl wn (ybuild (us := [h5.v, h7.v]) [(0, h5.v), (1, h7.v)] SO_89 (bp2 (et rfl rfl) (et rfl rfl)) rfl) ?_
      refine Rn QSn ?_
      refine Lc rfl ?_ LAn
      refine LB wn (r_box (vals := [h5.v, h7.v]) hst (et rfl rfl) rfl) ?_
      clear hst
      intro b10 w hst
      refine DRn (l1 := []) (l2 := []) (lc := [8]) (by kernel_rfl) (by kernel_rfl) (by kernel_rfl) ?_
      refine Rn QSn ?_
      refine Lc rfl ?_ LAn
      refine Ly wn (ya (v := .pointer (some ⟨b10, 0, none⟩)) (et rfl rfl)) ?_
      refine DRz (l1 := []) (l2 := []) (by kernel_rfl) (by kernel_rfl) ?_
      refine Rn QSn ?_
      exact j1 _ _ ⟨_, _, _, _, rfl, (hst.pk 5 [2, 2, 1, 0] rfl)⟩
    · refine LH wn (rMk hst SL_54 (et rfl rfl) gx9) ?_
      clear hst
      intro h7 w hst
      refine DRn (l1 := []) (l2 := [0]) (lc := [1]) (by kernel_rfl) (by kernel_rfl) (by kernel_rfl) ?_
      refine Rn (Sy rfl rfl wn (yLbs (us := [h2.v]) ST_27 (et rfl rfl) hst (mtR mhR) rfl rfl) rfl QSn) ?_
      refine Lc rfl ?_ LAn
      refine Lk wn (yCall FN_63 (a1 (et rfl rfl))) (sparseref12_Table_ok (hM := gr4) (hst := hst) (q1 := q1)) ?_
      clear hst
      rintro _ w ⟨h5, y6, rfl, hst⟩
      refine ⟨_, rfl, ?_⟩
      refine DRn (l1 := [6]) (l2 := []) (lc := [7]) (by kernel_rfl) (by kernel_rfl) (by kernel_rfl) ?_
      refine Ry rfl rfl wn (ybuild (us := [h5.v, h7.v]) [(0, h5.v), (1, h7.v)] SO_89 (bp2 (et rfl rfl) (et rfl rfl)) rfl) ?_
      refine Rn QSn ?_
      refine Lc rfl ?_ LAn
      refine LB wn (r_box (vals := [h5.v, h7.v]) hst (et rfl rfl) rfl) ?_
      clear hst
      intro b10 w hst
      refine DRn (l1 := []) (l2 := []) (lc := [8]) (by kernel_rfl) (by kernel_rfl) (by kernel_rfl) ?_
      refine Rn QSn ?_
      refine Lc rfl ?_ LAn
      refine Ly wn (ya (v := .pointer (some ⟨b10, 0, none⟩)) (et rfl rfl)) ?_
      refine DRz (l1 := []) (l2 := []) (by kernel_rfl) (by kernel_rfl) ?_
      refine Rn QSn ?_
      exact j1 _ _ ⟨_, _, _, _, rfl, (hst.pk 5 [1, 1, 1, 0] rfl)⟩
  clear hst
  rintro f w ⟨b11, h12, y13, h14, e15_2, hst⟩
  refine k2 _ _ ?_
  refine wp_ret ?_
  obtain rfl := someI hM
  exact hQ _ _ _ (fin1r Try.results44 ⟨rfl, e15_2⟩ ⟨_, _, _, _, rfl, hst⟩)

theorem sparseref16_Elimination_Neighbours_ok {w0 : World} {ros : List Fact} {rs : List Res} {w : World} {x2 : List (List Bool)} {x5 : List Bool} {x7 : Int} {b1 : Nat} {h3 : Hdr} {y4 : List Hdr} {h6 : Hdr} {out : (List Int)} (hM : sparseref16_Elimination_Neighbours x2 x5 x7 = some out) (hst : St w0 ros (box b1 89 [h3.v, h6.v] :: row 54 rH h3.v y4 :: fam 4 rB y4 x2 :: row 4 rB h6.v x5 :: rs) w) :
    Calls Try.prog 45 #[.pointer (some ⟨b1, 0, none⟩), .int .i64 x7] w (fun e w => ∃ (h100001 : Hdr), e = .returned (h100001.v) ∧ St w0 (ros) (row 54 rH h3.v y4 :: fam 4 rB y4 x2 :: row 4 rB h6.v x5 :: box b1 89 [h3.v, h6.v] :: row 3 (rI .i64) h100001.v out :: rs) w) := by
  refine enterQ Try.func45 rfl Try.ntmps45 rfl fun Q hQ => ?_
  refine seqQ fun Q1 k1 z1 => ?_
  refine wp_region_lit ?_
  refine Y wn rfl (ya (v := hnil.v) rfl) ?_
  refine wpList_nil ?_
  refine k1 _ _ ?_
  refine seqQ fun Q2 k2 z2 => ?_
  refine wp_region_lit ?_
  refine Y wn rfl (ya (v := hnil.v) rfl) ?_
  refine wpList_nil ?_
  refine k2 _ _ ?_
  refine seqQ fun Q3 k3 z3 => ?_
  refine seqQ fun Q4 k4 z4 => ?_
  refine wp_region_lit ?_
  refine Y wn rfl (ya (v := .int .i64 0) rfl) ?_
  refine wpList_nil ?_
  refine k4 _ _ ?_
  refine blockQ fun Q5 q5 => ?_
  obtain ⟨o5, go5, hM⟩ := bs hM
  have je5_0 : ∀ (x51 : List Int) (h50 : Hdr) (f : Nat → Value) (w : World), f 5 = h50.v → St w0 (ros) (row 54 rH h3.v y4 :: fam 4 rB y4 x2 :: row 4 rB h6.v x5 :: box b1 89 [h3.v, h6.v] :: row 3 (rI .i64) h50.v x51 :: rs) w → x51 = o5 → Q5 (.exit 0) (fr 41 f) w := by
    intro x51 h50 f w eje5_0_5 hst ho
    subst ho
    refine q5 _ _ _ ?_
    refine k3 _ _ ?_
    refine seqQ fun Q16 k16 z16 => ?_
    refine wp_region_lit ?_
    refine Y wn rfl (ym (v := h50.v) (et rfl eje5_0_5)) ?_
    refine Y wn rfl (ya (v := h50.v) (et rfl rfl)) ?_
    refine wpList_nil ?_
    refine k16 _ _ ?_
    refine wp_ret ?_
    obtain rfl := someI hM
    exact hQ _ _ _ (fin1r Try.results45 ⟨rfl, rfl⟩ ⟨_, rfl, hst⟩)
  replace hst := hst.rowNh 3 (rI .i64)
  refine loopQ (fun s a w => ∃ (x27 : List Int) (x28 : Int) (f : Nat → Value) (h26 : Hdr), (x27, x28) = s ∧ a = fr 41 f ∧ f 0 = .pointer (some ⟨b1, 0, none⟩) ∧ f 1 = .int .i64 x7 ∧ f 5 = h26.v ∧ f 6 = .int .i64 x28 ∧ St w0 (ros) (row 54 rH h3.v y4 :: fam 4 rB y4 x2 :: row 4 rB h6.v x5 :: box b1 89 [h3.v, h6.v] :: row 3 (rI .i64) h26.v x27 :: rs) w) go5 ⟨_, _, _, _, rfl, rfl, rfl, rfl, rfl, rfl, (hst.pk 5 [2, 2, 2, 1, 0] rfl)⟩ ?_
  clear hst
  rintro _ _ w r5_ ⟨x27, x28, f, h26, rfl, rfl, e5_0, e5_1, e5_5, e5_6, hst⟩ hM5 ho5 Q100005 n5 zz5
  refine seqQ fun Q17 k17 z17 => ?_
  refine seqQ fun Q18 k18 z18 => ?_
  refine wp_region_lit ?_
  refine Y wn rfl (ym (v := .int .i64 x28) (et rfl e5_6)) ?_
  refine Y wn rfl (ym (v := .pointer (some ⟨b1, 0, none⟩)) (et rfl e5_0)) ?_
  refine Y wn rfl (yn (et rfl rfl)) ?_
  refine Y wn rfl (yFb FL_89_0 (et rfl rfl)) ?_
  refine Y wn rfl (yLb (u := h3.v) O_53 (et rfl rfl) hst (mtR (mtR (mtR mhR))) rfl) ?_
  refine Y wn rfl (yLenF SLH_53 (et rfl rfl) hst (rdO mhR) (mtR mhR)) ?_
  refine Y wn rfl (ylss (et rfl rfl) (et rfl rfl)) ?_
  refine wpList_nil ?_
  refine k18 _ _ ?_
  rcases iteS hM5 with ⟨c52, hM5⟩ | ⟨c52, hM5⟩
  · refine condT (et rfl rfl) (decide_eq_true c52) ?_
    refine wp_skip ?_
    refine k17 _ _ ?_
    refine seqQ fun Q19 k19 z19 => ?_
    refine blockQ fun Q20 q20 => ?_
    refine seqQ fun Q21 k21 z21 => ?_
    refine wp_region_lit ?_
    refine Y wn rfl (ym (v := .pointer (some ⟨b1, 0, none⟩)) (et rfl e5_0)) ?_
    refine Y wn rfl (yn (et rfl rfl)) ?_
    refine Y wn rfl (yFb FL_89_0 (et rfl rfl)) ?_
    refine Y wn rfl (yLb (u := h3.v) O_53 (et rfl rfl) hst (mtR (mtR (mtR mhR))) rfl) ?_
    refine Y wn rfl (ym (v := .int .i64 x7) (et rfl e5_1)) ?_
    obtain ⟨x53, gx53, hM5⟩ := bs hM5
    obtain ⟨h54, gh54⟩ := hst.famI (mtR mhR) gx53
    refine Y wn rfl (yIa SLH_53 (et rfl rfl) (et rfl rfl) hst (rdO mhR) gh54) ?_
    refine Y wn rfl (yF1 O_54 (et rfl rfl) hst (rdO mhR) gh54 rfl) ?_
    refine Y wn rfl (ym (v := .int .i64 x28) (et rfl e5_6)) ?_
    obtain ⟨x55, gx55, hM5⟩ := bs hM5
    refine Y wn rfl (yIa SL_54 (et rfl rfl) (et rfl rfl) hst (rdF (mtR mhR) gh54 gx53) gx55) ?_
    refine Y wn rfl (yB O_4 (et rfl rfl) hst (rdF (mtR mhR) gh54 gx53) gx55) ?_
    refine Y wn rfl (ym (v := .bool x55) (et rfl rfl)) ?_
    obtain ⟨r57, gr57, hM5⟩ := bs hM5
    refine joinW 9 (fun f w => f 0 = .pointer (some ⟨b1, 0, none⟩) ∧ f 1 = .int .i64 x7 ∧ f 5 = h26.v ∧ f 6 = .int .i64 x28 ∧ f 35 = .bool r57 ∧ St w0 (ros) (row 54 rH h3.v y4 :: fam 4 rB y4 x2 :: row 4 rB h6.v x5 :: box b1 89 [h3.v, h6.v] :: row 3 (rI .i64) h26.v x27 :: rs) w) (fun j6 => ?_) ?_
    · rcases iteS gr57 with ⟨c59, gr57⟩ | ⟨c59, gr57⟩
      · refine Y (wg rfl rfl rfl c59) rfl (ym (v := .pointer (some ⟨b1, 0, none⟩)) (et rfl e5_0)) ?_
        refine Y (wg rfl rfl rfl c59) rfl (yn (et rfl rfl)) ?_
        refine Y (wg rfl rfl rfl c59) rfl (yFb FL_89_1 (et rfl rfl)) ?_
        refine Y (wg rfl rfl rfl c59) rfl (yLb (u := h6.v) O_54 (et rfl rfl) hst (mtR (mtR (mtR mhR))) rfl) ?_
        refine Y (wg rfl rfl rfl c59) rfl (ym (v := .int .i64 x28) (et rfl e5_6)) ?_
        obtain ⟨x60, gx60, gr57⟩ := bs gr57
        refine Y (wg rfl rfl rfl c59) rfl (yIa SL_54 (et rfl rfl) (et rfl rfl) hst (rdO (mtR (mtR mhR))) gx60) ?_
        refine Y (wg rfl rfl rfl c59) rfl (yB O_4 (et rfl rfl) hst (rdO (mtR (mtR mhR))) gx60) ?_
        refine Y (wg rfl rfl rfl c59) rfl (ynot (et rfl rfl)) ?_
        refine Y wn rfl (ypt (v := .bool (!(x60))) (et rfl rfl) c59 (et rfl rfl)) ?_
        obtain rfl := someI gr57
        exact j6 _ _ ⟨e5_0, e5_1, e5_5, e5_6, rfl, hst⟩
      · refine Gn (wx rfl rfl rfl (bfalse c59)) rfl ?_
        refine Gn (wx rfl rfl rfl (bfalse c59)) rfl ?_
        refine Gn (wx rfl rfl rfl (bfalse c59)) rfl ?_
        refine Gn (wx rfl rfl rfl (bfalse c59)) rfl ?_
        refine Gn (wx rfl rfl rfl (bfalse c59)) rfl ?_
        refine Gn (wx rfl rfl rfl (bfalse c59)) rfl ?_
        refine Gn (wx rfl rfl rfl (bfalse c59)) rfl ?_
        refine Gn (wx rfl rfl rfl (bfalse c59)) rfl ?_
        refine Y wn rfl (ypf (v := .bool false) (et rfl rfl) (bfalse c59) rfl) ?_
        obtain rfl := someI gr57
        exact j6 _ _ ⟨e5_0, e5_1, e5_5, e5_6, rfl, hst⟩
    clear hst
    rintro f w ⟨e58_0, e58_1, e58_5, e58_6, e58_35, hst⟩
    refine wpList_nil ?_
    refine k21 _ _ ?_
    have j7 : ∀ (x65 : List Int) (h64 : Hdr) (f : Nat → Value) (w : World), f 0 = .pointer (some ⟨b1, 0, none⟩) → f 1 = .int .i64 x7 → f 5 = h64.v → f 6 = .int .i64 x28 → St w0 (ros) (row 54 rH h3.v y4 :: fam 4 rB y4 x2 :: row 4 rB h6.v x5 :: box b1 89 [h3.v, h6.v] :: row 3 (rI .i64) h64.v x65 :: rs) w → sparseref16_Elimination_Neighbours_j7 x28 x65 = some r5_ → Q20 .normal (fr 41 f) w := by
      intro x65 h64 f w ej7_0 ej7_1 ej7_5 ej7_6 hst hM
      refine q20 _ _ _ ?_
      refine k19 _ _ ?_
      refine wp_region_lit ?_
      refine Y wn rfl (ym (v := .int .i64 x28) (et rfl ej7_6)) ?_
      refine Y wn rfl (yadd (et rfl rfl) rfl) ?_
      refine Y wn rfl (ya (v := .int .i64 (wa .i64 x28 1)) (et rfl rfl)) ?_
      refine wpList_nil ?_
      obtain rfl := someI hM
      exact n5 _ _ _ rfl ⟨_, _, _, _, rfl, rfl, ej7_0, ej7_1, ej7_5, rfl, hst⟩
    rcases iteS hM5 with ⟨c66, hM5⟩ | ⟨c66, hM5⟩
    · refine condT (et rfl e58_35) c66 ?_
      refine wp_region_lit ?_
      refine Y wn rfl (ym (v := h26.v) (et rfl e58_5)) ?_
      refine Y wn rfl (ym (v := .int .i64 x28) (et rfl e58_6)) ?_
      refine YH wn rfl (rLt (n := 1) (l := [x28]) hst SL_22 [.int .i64 x28] (bp1 (et rfl rfl)) rfl rfl (mks1 (cs := [.int .i64 x28]) rfl mkI mks0)) ?_
      clear hst
      intro h67 w hst
      obtain ⟨x69, gx69, hM5⟩ := bs hM5
      replace hst := hst.pk 6 [5, 0, 0, 0, 0, 0] rfl
      refine YH wn rfl (rAp hst SL_22 (et rfl rfl) (et rfl rfl) (rdO (mtR mhR)) gx69) ?_
      clear hst
      intro h68 w hst
      refine Y wn rfl (ya (v := h68.v) (et rfl rfl)) ?_
      refine wpList_nil ?_
      exact j7 _ _ _ _ e58_0 e58_1 rfl e58_6 (hst.pk 6 [2, 2, 2, 2, 0] rfl) hM5
    · refine condF (et rfl e58_35) (bfalse c66) ?_
      refine wp_skip ?_
      exact j7 _ _ _ _ e58_0 e58_1 e58_5 e58_6 hst hM5
  · refine condF (et rfl rfl) (decide_eq_false c52) ?_
    refine wp_exit ?_
    refine z17 _ _ _ rfl ?_
    obtain rfl := someI hM5
    refine zz5 _ _ _ _ rfl rfl ?_
    exact je5_0 _ _ _ _ e5_5 hst (ho5 _ rfl)

theorem sparseref16_Elimination_Eliminate_ok {w0 : World} {ros : List Fact} {rs : List Res} {w : World} {x2 : List (List Bool)} {x5 : List Bool} {x7 : Int} {b1 : Nat} {h3 : Hdr} {y4 : List Hdr} {h6 : Hdr} {out : (List (List Bool)) × (List Bool)} (hM : sparseref16_Elimination_Eliminate x2 x5 x7 = some out) (hst : St w0 ros (box b1 89 [h3.v, h6.v] :: row 54 rH h3.v y4 :: fam 4 rB y4 x2 :: row 4 rB h6.v x5 :: rs) w) :
    Calls Try.prog 46 #[.pointer (some ⟨b1, 0, none⟩), .int .i64 x7] w (fun e w => e = .returned (.tuple #[]) ∧ St w0 (ros) (row 54 rH h3.v y4 :: fam 4 rB y4 out.1 :: row 4 rB h6.v out.2 :: box b1 89 [h3.v, h6.v] :: rs) w) := by
  refine enterQ Try.func46 rfl Try.ntmps46 rfl fun Q hQ => ?_
  refine seqQ fun Q1 k1 z1 => ?_
  refine wp_region_lit ?_
  refine Y wn rfl (ym (v := .pointer (some ⟨b1, 0, none⟩)) (et rfl rfl)) ?_
  refine Y wn rfl (ym (v := .int .i64 x7) (et rfl rfl)) ?_
  obtain ⟨r8, gr8, hM⟩ := bs hM
  refine Yc wn rfl (yCall FN_45 (a2 (et rfl rfl) (et rfl rfl))) (sparseref16_Elimination_Neighbours_ok (hM := gr8) (hst := hst) ) ?_
  clear hst
  rintro _ w ⟨h9, rfl, hst⟩
  refine ⟨_, rfl, ?_⟩
  refine Y wn rfl (ya (v := h9.v) (et rfl rfl)) ?_
  refine wpList_nil ?_
  refine k1 _ _ ?_
  refine seqQ fun Q2 k2 z2 => ?_
  refine seqQ fun Q3 k3 z3 => ?_
  refine wp_region_lit ?_
  refine Y wn rfl (ya (v := .int .i64 0) rfl) ?_
  refine wpList_nil ?_
  refine k3 _ _ ?_
  refine blockQ fun Q4 q4 => ?_
  obtain ⟨o9, go9, hM⟩ := bs hM
  have je9_0 : ∀ (x116 : List (List Bool)) (f : Nat → Value) (w : World), f 0 = .pointer (some ⟨b1, 0, none⟩) → f 1 = .int .i64 x7 → St w0 (ros) (row 54 rH h3.v y4 :: fam 4 rB y4 x116 :: row 4 rB h6.v x5 :: box b1 89 [h3.v, h6.v] :: rs) w → x116 = o9 → Q4 (.exit 0) (fr 46 f) w := by
    intro x116 f w eje9_0_0 eje9_0_1 hst ho
    subst ho
    refine q4 _ _ _ ?_
    refine k2 _ _ ?_
    refine wp_region_lit ?_
    refine Y wn rfl (ym (v := .pointer (some ⟨b1, 0, none⟩)) (et rfl eje9_0_0)) ?_
    refine Y wn rfl (yn (et rfl rfl)) ?_
    refine Y wn rfl (yFb FL_89_1 (et rfl rfl)) ?_
    refine Y wn rfl (yLb (u := h6.v) O_54 (et rfl rfl) hst (mtR (mtR (mtR mhR))) rfl) ?_
    refine Y wn rfl (ym (v := .int .i64 x7) (et rfl eje9_0_1)) ?_
    obtain ⟨x117, gx117, hM⟩ := bs hM
    refine Y wn rfl (yIs SL_54 (et rfl rfl) (et rfl rfl) hst (rdO (mtR (mtR mhR))) gx117) ?_
    replace hst := hst.pk 3 [2, 0, 0] rfl
    refine YT wn rfl (r_sti (cs := [.bool true]) hst O_4 rfl (et rfl rfl) rfl rfl mkB gx117) ?_
    clear hst
    intro w hst
    refine wpList_nil ?_
    obtain rfl := someI hM
    exact hQ _ _ _ (fin0n Try.results46 ⟨rfl, (hst.pk 4 [1, 1, 0, 0] rfl)⟩)
  refine loopQ (fun s a w => ∃ (x61 : List (List Bool)) (x62 : Int) (f : Nat → Value), (x61, x62) = s ∧ a = fr 46 f ∧ f 0 = .pointer (some ⟨b1, 0, none⟩) ∧ f 1 = .int .i64 x7 ∧ f 4 = h9.v ∧ f 5 = .int .i64 x62 ∧ St w0 (ros) (row 54 rH h3.v y4 :: fam 4 rB y4 x61 :: row 4 rB h6.v x5 :: box b1 89 [h3.v, h6.v] :: row 3 (rI .i64) h9.v r8 :: rs) w) go9 ⟨_, _, _, rfl, rfl, rfl, rfl, rfl, rfl, hst⟩ ?_
  clear hst
  rintro _ _ w r9_ ⟨x61, x62, f, rfl, rfl, e9_0, e9_1, e9_4, e9_5, hst⟩ hM9 ho9 Q100009 n9 zz9
  refine seqQ fun Q47 k47 z47 => ?_
  refine seqQ fun Q48 k48 z48 => ?_
  refine wp_region_lit ?_
  refine Y wn rfl (ym (v := .int .i64 x62) (et rfl e9_5)) ?_
  refine Y wn rfl (ym (v := h9.v) (et rfl e9_4)) ?_
  refine Y wn rfl (yLen SL_22 (et rfl rfl) hst (rdO (mtR (mtR (mtR (mtR mhR)))))) ?_
  refine Y wn rfl (ylss (et rfl rfl) (et rfl rfl)) ?_
  refine wpList_nil ?_
  refine k48 _ _ ?_
  rcases iteS hM9 with ⟨c118, hM9⟩ | ⟨c118, hM9⟩
  · refine condT (et rfl rfl) (decide_eq_true c118) ?_
    refine wp_skip ?_
    refine k47 _ _ ?_
    refine seqQ fun Q49 k49 z49 => ?_
    refine blockQ fun Q50 q50 => ?_
    refine seqQ fun Q51 k51 z51 => ?_
    refine wp_region_lit ?_
    refine Y wn rfl (ya (v := .int .i64 0) rfl) ?_
    refine wpList_nil ?_
    refine k51 _ _ ?_
    refine blockQ fun Q52 q52 => ?_
    obtain ⟨o12, go12, hM9⟩ := bs hM9
    have je12_0 : ∀ (x153 : List (List Bool)) (f : Nat → Value) (w : World), f 0 = .pointer (some ⟨b1, 0, none⟩) → f 1 = .int .i64 x7 → f 4 = h9.v → f 5 = .int .i64 x62 → St w0 (ros) (row 54 rH h3.v y4 :: fam 4 rB y4 x153 :: row 4 rB h6.v x5 :: box b1 89 [h3.v, h6.v] :: row 3 (rI .i64) h9.v r8 :: rs) w → x153 = o12 → Q52 (.exit 2) (fr 46 f) w := by
      intro x153 f w eje12_0_0 eje12_0_1 eje12_0_4 eje12_0_5 hst ho
      subst ho
      refine q52 _ _ _ ?_
      refine q50 _ _ _ ?_
      refine k49 _ _ ?_
      refine wp_region_lit ?_
      refine Y wn rfl (ym (v := .int .i64 x62) (et rfl eje12_0_5)) ?_
      refine Y wn rfl (yadd (et rfl rfl) rfl) ?_
      refine Y wn rfl (ya (v := .int .i64 (wa .i64 x62 1)) (et rfl rfl)) ?_
      refine wpList_nil ?_
      obtain rfl := someI hM9
      exact n9 _ _ _ rfl ⟨_, _, _, rfl, rfl, eje12_0_0, eje12_0_1, eje12_0_4, rfl, hst⟩
    refine loopQ (fun s a w => ∃ (x134 : List (List Bool)) (x135 : Int) (f : Nat → Value), (x134, x135) = s ∧ a = fr 46 f ∧ f 0 = .pointer (some ⟨b1, 0, none⟩) ∧ f 1 = .int .i64 x7 ∧ f 4 = h9.v ∧ f 5 = .int .i64 x62 ∧ f 6 = .int .i64 x135 ∧ St w0 (ros) (row 54 rH h3.v y4 :: fam 4 rB y4 x134 :: row 4 rB h6.v x5 :: box b1 89 [h3.v, h6.v] :: row 3 (rI .i64) h9.v r8 :: rs) w) go12 ⟨_, _, _, rfl, rfl, e9_0, e9_1, e9_4, e9_5, rfl, hst⟩ ?_
    clear hst
    rintro _ _ w r12_ ⟨x134, x135, f, rfl, rfl, e12_0, e12_1, e12_4, e12_5, e12_6, hst⟩ hM12 ho12 Q100012 n12 zz12
    refine seqQ fun Q63 k63 z63 => ?_
    refine seqQ fun Q64 k64 z64 => ?_
    refine wp_region_lit ?_
    refine Y wn rfl (ym (v := .int .i64 x135) (et rfl e12_6)) ?_
    refine Y wn rfl (ym (v := h9.v) (et rfl e12_4)) ?_
    refine Y wn rfl (yLen SL_22 (et rfl rfl) hst (rdO (mtR (mtR (mtR (mtR mhR)))))) ?_
    refine Y wn rfl (ylss (et rfl rfl) (et rfl rfl)) ?_
    refine wpList_nil ?_
    refine k64 _ _ ?_
    rcases iteS hM12 with ⟨c154, hM12⟩ | ⟨c154, hM12⟩
    · refine condT (et rfl rfl) (decide_eq_true c154) ?_
      refine wp_skip ?_
      refine k63 _ _ ?_
      refine seqQ fun Q65 k65 z65 => ?_
      refine blockQ fun Q66 q66 => ?_
      refine seqQ fun Q67 k67 z67 => ?_
      refine wp_region_lit ?_
      refine Y wn rfl (ym (v := .int .i64 x62) (et rfl e12_5)) ?_
      refine Y wn rfl (ym (v := .int .i64 x135) (et rfl e12_6)) ?_
      refine Y wn rfl (yneq (et rfl rfl) (et rfl rfl)) ?_
      refine wpList_nil ?_
      refine k67 _ _ ?_
      have j13 : ∀ (x161 : List (List Bool)) (f : Nat → Value) (w : World), f 0 = .pointer (some ⟨b1, 0, none⟩) → f 1 = .int .i64 x7 → f 4 = h9.v → f 5 = .int .i64 x62 → f 6 = .int .i64 x135 → St w0 (ros) (row 54 rH h3.v y4 :: fam 4 rB y4 x161 :: row 4 rB h6.v x5 :: box b1 89 [h3.v, h6.v] :: row 3 (rI .i64) h9.v r8 :: rs) w → sparseref16_Elimination_Eliminate_j13 x135 x161 = some r12_ → Q66 .normal (fr 46 f) w := by
        intro x161 f w ej13_0 ej13_1 ej13_4 ej13_5 ej13_6 hst hM
        refine q66 _ _ _ ?_
        refine k65 _ _ ?_
        refine wp_region_lit ?_
        refine Y wn rfl (ym (v := .int .i64 x135) (et rfl ej13_6)) ?_
        refine Y wn rfl (yadd (et rfl rfl) rfl) ?_
        refine Y wn rfl (ya (v := .int .i64 (wa .i64 x135 1)) (et rfl rfl)) ?_
        refine wpList_nil ?_
        obtain rfl := someI hM
        exact n12 _ _ _ rfl ⟨_, _, _, rfl, rfl, ej13_0, ej13_1, ej13_4, ej13_5, rfl, hst⟩
      rcases iteS hM12 with ⟨c162, hM12⟩ | ⟨c162, hM12⟩
      · refine condF (et rfl rfl) (nF (decide_eq_true c162)) ?_
        refine wp_skip ?_
        exact j13 _ _ _ e12_0 e12_1 e12_4 e12_5 e12_6 hst hM12
      · refine condT (et rfl rfl) (nT (decide_eq_false c162)) ?_
        obtain ⟨x163, gx163, hM12⟩ := bs hM12
        obtain ⟨x164, gx164, hM12⟩ := bs hM12
        obtain ⟨x166, gx166, hM12⟩ := bs hM12
        obtain ⟨x167, gx167, hM12⟩ := bs hM12
        obtain ⟨x168, gx168, hM12⟩ := bs hM12
        refine wp_drawR [0, 1, 3, 7, 0, 0, 48, 112, 255, 511, 0, 0, 3072, 7168, 16383, 32767] [15] 1 folM (by kernel_rfl) (by kernel_rfl) (by kernel_rfl) ?_
        replace hst := hst.drew
        refine DRn (l1 := [0, 1, 2, 3, 4, 5, 6, 7, 8, 9, 10, 11, 12, 13, 14]) (l2 := []) (lc := [15]) (by kernel_rfl) (by kernel_rfl) (by kernel_rfl) ?_
        refine Ry rfl rfl wn (ym (v := .pointer (some ⟨b1, 0, none⟩)) (et rfl e12_0)) ?_
        refine Ry rfl rfl wn (yn (et rfl rfl)) ?_
        refine Ry rfl rfl wn (yFb FL_89_0 (et rfl rfl)) ?_
        refine Ry rfl rfl wn (yLb (u := h3.v) O_53 (et rfl rfl) hst (mtR (mtR (mtR mhR))) rfl) ?_
        refine Ry rfl rfl wn (ym (v := h9.v) (et rfl e12_4)) ?_
        refine Ry rfl rfl wn (ym (v := .int .i64 x62) (et rfl e12_5)) ?_
        refine Ry rfl rfl wn (yIa SL_22 (et rfl rfl) (et rfl rfl) hst (rdO (mtR (mtR (mtR (mtR mhR))))) gx163) ?_
        refine Ry rfl rfl wn (yI O_3 (et rfl rfl) hst (rdO (mtR (mtR (mtR (mtR mhR))))) gx163) ?_
        obtain ⟨h165, gh165⟩ := hst.famI (mtR mhR) gx164
        refine Ry rfl rfl wn (yIa SLH_53 (et rfl rfl) (et rfl rfl) hst (rdO mhR) gh165) ?_
        refine Ry rfl rfl wn (yF1 O_54 (et rfl rfl) hst (rdO mhR) gh165 rfl) ?_
        refine Ry rfl rfl wn (ym (v := h9.v) (et rfl e12_4)) ?_
        refine Ry rfl rfl wn (ym (v := .int .i64 x135) (et rfl e12_6)) ?_
        refine Ry rfl rfl wn (yIa SL_22 (et rfl rfl) (et rfl rfl) hst (rdO (mtR (mtR (mtR (mtR mhR))))) gx166) ?_
        refine Ry rfl rfl wn (yI O_3 (et rfl rfl) hst (rdO (mtR (mtR (mtR (mtR mhR))))) gx166) ?_
        refine Ry rfl rfl wn (yIs SL_54 (et rfl rfl) (et rfl rfl) hst (rdF (mtR mhR) gh165 gx164) gx167) ?_
        refine Rn QSn ?_
        refine Lc rfl ?_ LAn
        replace hst := hst.pk 2 [1, 0] rfl
        refine LT wn (r_sti (cs := [.bool true]) (hst.foc gh165 gx164) O_4 rfl (et rfl rfl) rfl rfl mkB gx167) ?_
        clear hst
        intro w hst
        replace hst := hst.unfoc' gh165 gx168
        refine DRz (l1 := []) (l2 := []) (by kernel_rfl) (by kernel_rfl) ?_
        refine Rn QSn ?_
        exact j13 _ _ _ e12_0 e12_1 e12_4 e12_5 e12_6 (hst.pk 5 [1, 0, 0, 0, 0] rfl) hM12
    · refine condF (et rfl rfl) (decide_eq_false c154) ?_
      refine wp_exit ?_
      refine z63 _ _ _ rfl ?_
      obtain rfl := someI hM12
      refine zz12 _ _ _ _ rfl rfl ?_
      exact je12_0 _ _ _ e12_0 e12_1 e12_4 e12_5 hst (ho12 _ rfl)
  · refine condF (et rfl rfl) (decide_eq_false c118) ?_
    refine wp_exit ?_
    refine z47 _ _ _ rfl ?_
    obtain rfl := someI hM9
    refine zz9 _ _ _ _ rfl rfl ?_
    exact je9_0 _ _ _ e9_0 e9_1 (hst.pk 5 [0, 0, 0, 0] rfl) (ho9 _ rfl)

theorem sparseref19_Parent_ok {w0 : World} {ros : List Fact} {rs : List Res} {w : World} {x1 : List (List Int)} {h2 : Hdr} {out : (List Int) × Int} (hM : sparseref19_Parent x1 = some out) (q1 : imm (rS (rI .i64)) h2.v x1 ∈ ros) (hst : St w0 ros (rs) w) :
    Calls Try.prog 24 #[.agg #[h2.v]] w (fun e w => ∃ (h100001 : Hdr), e = .returned (.tuple #[h100001.v, .int .i64 out.2]) ∧ St w0 (ros) (row 3 (rI .i64) h100001.v out.1 :: rs) w) := by
  refine enterQ Try.func24 rfl Try.ntmps24 rfl fun Q hQ => ?_
  refine seqQ fun Q1 k1 z1 => ?_
  refine wp_region_lit ?_
  refine YB wn rfl (r_box (vals := [h2.v]) hst (et rfl rfl) rfl) ?_
  clear hst
  intro b3 w hst
  refine Y wn rfl (ya (v := hnil.v) rfl) ?_
  refine Y wn rfl (ya (v := .int .i64 0) rfl) ?_
  refine wpList_nil ?_
  refine k1 _ _ ?_
  refine seqQ fun Q2 k2 z2 => ?_
  refine seqQ fun Q3 k3 z3 => ?_
  refine wp_region_lit ?_
  refine Y wn rfl (yLbs (us := [h2.v]) ST_27 (et rfl rfl) hst mhR rfl rfl) ?_
  obtain ⟨r4, gr4, hM⟩ := bs hM
  refine Yc wn rfl (yCall FN_43 (a1 (et rfl rfl))) (sparseref12_Check_ok (hM := gr4) (hst := hst) (q1 := q1)) ?_
  clear hst
  rintro _ w ⟨rfl, hst⟩
  refine ⟨_, rfl, ?_⟩
  refine Y wn rfl (ya (v := .int .i64 r4) (et rfl rfl)) ?_
  refine wpList_nil ?_
  refine k3 _ _ ?_
  refine seqQ fun Q4 k4 z4 => ?_
  refine wp_region_lit ?_
  refine Y wn rfl (ym (v := .int .i64 r4) (et rfl rfl)) ?_
  refine Y wn rfl (yneq (et rfl rfl) rfl) ?_
  refine wpList_nil ?_
  refine k4 _ _ ?_
  rcases iteS hM with ⟨c5, hM⟩ | ⟨c5, hM⟩
  · refine condF (et rfl rfl) (nF (decide_eq_true c5)) ?_
    refine wp_skip ?_
    refine k2 _ _ ?_
    refine seqQ fun Q5 k5 z5 => ?_
    refine wp_region_lit ?_
    refine Y wn rfl (yLbs (us := [h2.v]) ST_27 (et rfl rfl) hst mhR rfl rfl) ?_
    obtain ⟨r6, gr6, hM⟩ := bs hM
    refine Yc wn rfl (yCall FN_44 (a1 (et rfl rfl))) (sparseref16_Begin_ok (hM := gr6) (hst := hst) (q1 := q1)) ?_
    clear hst
    rintro _ w ⟨b7, h8, y9, h10, rfl, hst⟩
    refine ⟨_, rfl, ?_⟩
    refine Y wn rfl (ya (v := .pointer (some ⟨b7, 0, none⟩)) (et rfl rfl)) ?_
    refine wpList_nil ?_
    refine k5 _ _ ?_
    refine seqQ fun Q6 k6 z6 => ?_
    refine wp_region_lit ?_
    refine Y wn rfl (ya (v := hnil.v) rfl) ?_
    refine wpList_nil ?_
    refine k6 _ _ ?_
    refine seqQ fun Q7 k7 z7 => ?_
    refine seqQ fun Q8 k8 z8 => ?_
    refine wp_region_lit ?_
    refine Y wn rfl (ya (v := .int .i64 0) rfl) ?_
    refine wpList_nil ?_
    refine k8 _ _ ?_
    refine blockQ fun Q9 q9 => ?_
    obtain ⟨o3, go3, hM⟩ := bs hM
    have je3_0 : ∀ (x44 : List Int) (h43 : Hdr) (f : Nat → Value) (w : World), f 6 = h43.v → St w0 (ros) (row 3 (rI .i64) h43.v x44 :: rs) w → x44 = o3 → Q9 (.exit 0) (fr 41 f) w := by
      intro x44 h43 f w eje3_0_6 hst ho
      subst ho
      refine q9 _ _ _ ?_
      refine k7 _ _ ?_
      refine seqQ fun Q28 k28 z28 => ?_
      refine wp_region_lit ?_
      refine Y wn rfl (ym (v := h43.v) (et rfl eje3_0_6)) ?_
      refine Y wn rfl (ya (v := h43.v) (et rfl rfl)) ?_
      refine Y wn rfl (ya (v := .int .i64 0) rfl) ?_
      refine wpList_nil ?_
      refine k28 _ _ ?_
      refine wp_ret ?_
      obtain rfl := someI hM
      exact hQ _ _ _ (fin2r Try.results24 ⟨rfl, rfl⟩ ⟨rfl, rfl⟩ ⟨_, rfl, hst⟩)
    replace hst := hst.rowNh 3 (rI .i64)
    refine loopQ (fun s a w => ∃ (x22 : List (List Bool)) (x23 : List Bool) (x25 : List Int) (x26 : Int) (f : Nat → Value) (h24 : Hdr), (x22, x23, x25, x26) = s ∧ a = fr 41 f ∧ f 1 = .pointer (some ⟨b3, 0, none⟩) ∧ f 5 = .pointer (some ⟨b7, 0, none⟩) ∧ f 6 = h24.v ∧ f 7 = .int .i64 x26 ∧ St w0 (ros) (box b3 27 [h2.v] :: row 54 rH h8.v y9 :: fam 4 rB y9 x22 :: row 4 rB h10.v x23 :: box b7 89 [h8.v, h10.v] :: row 3 (rI .i64) h24.v x25 :: rs) w) go3 ⟨_, _, _, _, _, _, rfl, rfl, rfl, rfl, rfl, rfl, (hst.pk 6 [5, 1, 1, 1, 1, 0] rfl)⟩ ?_
    clear hst
    rintro _ _ w r3_ ⟨x22, x23, x25, x26, f, h24, rfl, rfl, e3_1, e3_5, e3_6, e3_7, hst⟩ hM3 ho3 Q100003 n3 zz3
    refine seqQ fun Q29 k29 z29 => ?_
    refine seqQ fun Q30 k30 z30 => ?_
    refine wp_region_lit ?_
    refine Y wn rfl (ym (v := .int .i64 x26) (et rfl e3_7)) ?_
    refine Y wn rfl (yFb FL_27_0 (et rfl e3_1)) ?_
    refine Y wn rfl (yLb (u := h2.v) O_25 (et rfl rfl) hst mhR rfl) ?_
    refine Y wn rfl (yLen SL_25 (et rfl rfl) hst (rdI q1)) ?_
    refine Y wn rfl (ylss (et rfl rfl) (et rfl rfl)) ?_
    refine wpList_nil ?_
    refine k30 _ _ ?_
    rcases iteS hM3 with ⟨c45, hM3⟩ | ⟨c45, hM3⟩
    · refine condT (et rfl rfl) (decide_eq_true c45) ?_
      refine wp_skip ?_
      refine k29 _ _ ?_
      refine seqQ fun Q31 k31 z31 => ?_
      refine blockQ fun Q32 q32 => ?_
      refine seqQ fun Q33 k33 z33 => ?_
      refine wp_region_lit ?_
      refine Y wn rfl (ya (v := .int .i64 (-1)) rfl) ?_
      refine wpList_nil ?_
      refine k33 _ _ ?_
      refine seqQ fun Q34 k34 z34 => ?_
      refine seqQ fun Q35 k35 z35 => ?_
      refine wp_region_lit ?_
      refine Y wn rfl (ym (v := .pointer (some ⟨b7, 0, none⟩)) (et rfl e3_5)) ?_
      refine Y wn rfl (ym (v := .int .i64 x26) (et rfl e3_7)) ?_
      obtain ⟨r46, gr46, hM3⟩ := bs hM3
      replace hst := hst.pk 5 [4, 1, 1, 1, 0] rfl
      refine Yc wn rfl (yCall FN_45 (a2 (et rfl rfl) (et rfl rfl))) (sparseref16_Elimination_Neighbours_ok (hM := gr46) (hst := hst) ) ?_
      clear hst
      rintro _ w ⟨h47, rfl, hst⟩
      refine ⟨_, rfl, ?_⟩
      refine Y wn rfl (ya (v := h47.v) (et rfl rfl)) ?_
      refine wpList_nil ?_
      refine k35 _ _ ?_
      refine seqQ fun Q36 k36 z36 => ?_
      refine wp_region_lit ?_
      refine Y wn rfl (ym (v := h47.v) (et rfl rfl)) ?_
      refine Y wn rfl (yLen SL_22 (et rfl rfl) hst (rdO (mtR (mtR (mtR (mtR mhR)))))) ?_
      refine Y wn rfl (ygtr (et rfl rfl) rfl) ?_
      refine wpList_nil ?_
      refine k36 _ _ ?_
      have j4 : ∀ (x49 : Int) (f : Nat → Value) (w : World), f 1 = .pointer (some ⟨b3, 0, none⟩) → f 5 = .pointer (some ⟨b7, 0, none⟩) → f 6 = h24.v → f 7 = .int .i64 x26 → f 8 = .int .i64 x49 → St w0 (ros) (box b3 27 [h2.v] :: row 54 rH h8.v y9 :: fam 4 rB y9 x22 :: row 4 rB h10.v x23 :: box b7 89 [h8.v, h10.v] :: row 3 (rI .i64) h24.v x25 :: rs) w → sparseref19_Parent_j4 x25 x22 x23 x26 x49 = some r3_ → Q34 .normal (fr 41 f) w := by
        intro x49 f w ej4_1 ej4_5 ej4_6 ej4_7 ej4_8 hst hM
        refine k34 _ _ ?_
        refine seqQ fun Q37 k37 z37 => ?_
        refine wp_region_lit ?_
        refine Y wn rfl (ym (v := h24.v) (et rfl ej4_6)) ?_
        refine Y wn rfl (ym (v := .int .i64 x49) (et rfl ej4_8)) ?_
        refine YH wn rfl (rLt (n := 1) (l := [x49]) hst SL_22 [.int .i64 x49] (bp1 (et rfl rfl)) rfl rfl (mks1 (cs := [.int .i64 x49]) rfl mkI mks0)) ?_
        clear hst
        intro h50 w hst
        obtain ⟨x52, gx52, hM⟩ := bs hM
        replace hst := hst.pk 7 [6, 0, 0, 0, 0, 0, 0] rfl
        refine YH wn rfl (rAp hst SL_22 (et rfl rfl) (et rfl rfl) (rdO (mtR mhR)) gx52) ?_
        clear hst
        intro h51 w hst
        refine Y wn rfl (ya (v := h51.v) (et rfl rfl)) ?_
        refine wpList_nil ?_
        refine k37 _ _ ?_
        refine wp_region_lit ?_
        refine Y wn rfl (ym (v := .pointer (some ⟨b7, 0, none⟩)) (et rfl ej4_5)) ?_
        refine Y wn rfl (ym (v := .int .i64 x26) (et rfl ej4_7)) ?_
        obtain ⟨r53, gr53, hM⟩ := bs hM
        replace hst := hst.pk 7 [6, 3, 3, 3, 0, 0, 0] rfl
        refine Yc wn rfl (yCall FN_46 (a2 (et rfl rfl) (et rfl rfl))) (sparseref16_Elimination_Eliminate_ok (hM := gr53) (hst := hst) ) ?_
        clear hst
        rintro _ w ⟨rfl, hst⟩
        refine ⟨_, rfl, ?_⟩
        refine wpList_nil ?_
        refine q32 _ _ _ ?_
        refine k31 _ _ ?_
        refine wp_region_lit ?_
        refine Y wn rfl (ym (v := .int .i64 x26) (et rfl ej4_7)) ?_
        refine Y wn rfl (yadd (et rfl rfl) rfl) ?_
        refine Y wn rfl (ya (v := .int .i64 (wa .i64 x26 1)) (et rfl rfl)) ?_
        refine wpList_nil ?_
        obtain rfl := someI hM
        exact n3 _ _ _ rfl ⟨_, _, _, _, _, _, rfl, rfl, ej4_1, ej4_5, rfl, rfl, (hst.pk 7 [6, 0, 0, 0, 0, 0] rfl)⟩
      rcases iteS hM3 with ⟨c54, hM3⟩ | ⟨c54, hM3⟩
      · refine condT (et rfl rfl) (decide_eq_true c54) ?_
        refine wp_region_lit ?_
        refine Y wn rfl (ym (v := h47.v) (et rfl rfl)) ?_
        obtain ⟨x55, gx55, hM3⟩ := bs hM3
        refine Y wn rfl (yIa SL_22 (et rfl rfl) rfl hst (rdO (mtR (mtR (mtR (mtR mhR))))) gx55) ?_
        refine Y wn rfl (yI O_3 (et rfl rfl) hst (rdO (mtR (mtR (mtR (mtR mhR))))) gx55) ?_
        refine Y wn rfl (ya (v := .int .i64 x55) (et rfl rfl)) ?_
        refine wpList_nil ?_
        exact j4 _ _ _ e3_1 e3_5 e3_6 e3_7 rfl (hst.pk 7 [5, 0, 0, 0, 0, 1] rfl) hM3
      · refine condF (et rfl rfl) (decide_eq_false c54) ?_
        refine wp_skip ?_
        exact j4 _ _ _ e3_1 e3_5 e3_6 e3_7 rfl (hst.pk 7 [5, 0, 0, 0, 0, 1] rfl) hM3
    · refine condF (et rfl rfl) (decide_eq_false c45) ?_
      refine wp_exit ?_
      refine z29 _ _ _ rfl ?_
      obtain rfl := someI hM3
      refine zz3 _ _ _ _ rfl rfl ?_
      exact je3_0 _ _ _ _ e3_6 (hst.pk 6 [5] rfl) (ho3 _ rfl)
  · refine condT (et rfl rfl) (nT (decide_eq_false c5)) ?_
    refine seqQ fun Q38 k38 z38 => ?_
    refine wp_region_lit ?_
    refine Y wn rfl (ym (v := .int .i64 r4) (et rfl rfl)) ?_
    refine Y wn rfl (ya (v := hnil.v) rfl) ?_
    refine Y wn rfl (ya (v := .int .i64 r4) (et rfl rfl)) ?_
    refine wpList_nil ?_
    refine k38 _ _ ?_
    refine wp_ret ?_
    refine z2 _ _ _ rfl ?_
    obtain rfl := someI hM
    replace hst := hst.rowNh 3 (rI .i64)
    exact hQ _ _ _ (fin2r Try.results24 ⟨rfl, rfl⟩ ⟨rfl, rfl⟩ ⟨_, rfl, (hst.pk 2 [0] rfl)⟩)

theorem sparselaw19_EtreeMade_ok {w0 : World} {ros : List Fact} {rs : List Res} {w : World} {x1 : Int} {x2 : List Int} {h3 : Hdr} {out : Bool} (hM : sparselaw19_EtreeMade x1 x2 = some out) (q1 : imm (rI .i64) h3.v x2 ∈ ros) (hst : St w0 ros (rs) w) :
    Calls Try.prog 5 #[.int .i64 x1, h3.v] w (fun e w => e = .returned (.bool out) ∧ St w0 (ros) (rs) w) := by
  refine enterQ Try.func5 rfl Try.ntmps5 rfl fun Q hQ => ?_
  refine seqQ fun Q1 k1 z1 => ?_
  refine wp_region_lit ?_
  refine Y wn rfl (ya (v := .bool false) rfl) ?_
  refine wpList_nil ?_
  refine k1 _ _ ?_
  refine seqQ fun Q2 k2 z2 => ?_
  refine seqQ fun Q3 k3 z3 => ?_
  refine wp_region_lit ?_
  refine Y wn rfl (ym (v := h3.v) (et rfl rfl)) ?_
  refine Y wn rfl (yLen SL_22 (et rfl rfl) hst (rdI q1)) ?_
  refine Y wn rfl (ygtr (et rfl rfl) rfl) ?_
  refine wpList_nil ?_
  refine k3 _ _ ?_
  rcases iteS hM with ⟨c4, hM⟩ | ⟨c4, hM⟩
  · refine condT (et rfl rfl) (decide_eq_true c4) ?_
    refine seqQ fun Q4 k4 z4 => ?_
    refine wp_region_lit ?_
    obtain ⟨r5, gr5, hM⟩ := bs hM
    refine Yc wn rfl (yCall FN_10 a0) (sparselaw19_awake_ok (hM := gr5) (hst := hst) ) ?_
    clear hst
    rintro _ w ⟨rfl, hst⟩
    refine ⟨_, rfl, ?_⟩
    refine Y wn rfl (ya (v := .bool r5) (et rfl rfl)) ?_
    refine wpList_nil ?_
    refine k4 _ _ ?_
    refine wp_ret ?_
    refine z2 _ _ _ rfl ?_
    obtain rfl := someI hM
    exact hQ _ _ _ (fin1r Try.results5 ⟨rfl, rfl⟩ ⟨rfl, hst⟩)
  · refine condF (et rfl rfl) (decide_eq_false c4) ?_
    refine wp_skip ?_
    refine k2 _ _ ?_
    refine seqQ fun Q5 k5 z5 => ?_
    refine wp_region_lit ?_
    refine Y wn rfl (ym (v := .int .i64 x1) (et rfl rfl)) ?_
    obtain ⟨r6, gr6, hM⟩ := bs hM
    refine Yc wn rfl (yCall FN_11 (a2 (et rfl rfl) rfl)) (sparsekit_Place_ok (hM := gr6) (hst := hst) ) ?_
    clear hst
    rintro _ w ⟨rfl, hst⟩
    refine ⟨_, rfl, ?_⟩
    refine Y wn rfl (ym (v := h3.v) (et rfl rfl)) ?_
    obtain ⟨r7, gr7, hM⟩ := bs hM
    refine Yc wn rfl (yCall FN_12 (a2 (et rfl rfl) (et rfl rfl))) (sparsemake_Graph_ok (hM := gr7) (hst := hst) (q1 := q1)) ?_
    clear hst
    rintro _ w ⟨h8, rfl, hst⟩
    refine ⟨_, rfl, ?_⟩
    refine YB wn rfl (rAl hst ZT_27) ?_
    clear hst
    intro b9 w hst
    refine YT wn rfl (r_stbn (vals' := [h8.v]) (us := [h8.v]) hst ST_27 (et rfl rfl) (et rfl rfl) rfl rfl (one_of rfl) rfl) ?_
    clear hst
    intro w hst
    refine wpList_nil ?_
    refine k5 _ _ ?_
    refine seqQ fun Q6 k6 z6 => ?_
    refine wp_region_lit ?_
    refine Y wn rfl (yLbs (us := [h8.v]) ST_27 (et rfl rfl) hst mhR rfl rfl) ?_
    obtain ⟨r10, gr10, hM⟩ := bs hM
    replace hst := hst.pk 2 [1, 0] rfl
    replace hst := hst.fz
    refine Yc wn rfl (yCall FN_13 (a1 (et rfl rfl))) (etree_Parent_ok (hM := gr10) (hst := hst) (q1 := mhF)) ?_
    clear hst
    rintro _ w ⟨h11, rfl, hst⟩
    refine ⟨_, rfl, ?_⟩
    refine Y wn rfl (ym (v := .tuple #[h11.v, .int .i64 r10.2]) (et rfl rfl)) ?_
    refine Y wn rfl (yx (v := h11.v) (et rfl rfl) rfl) ?_
    refine Y wn rfl (yx (v := .int .i64 r10.2) (et rfl rfl) rfl) ?_
    refine Y wn rfl (ya (v := h11.v) (et rfl rfl)) ?_
    refine Y wn rfl (ya (v := .int .i64 r10.2) (et rfl rfl)) ?_
    refine wpList_nil ?_
    refine k6 _ _ ?_
    refine seqQ fun Q7 k7 z7 => ?_
    refine wp_region_lit ?_
    refine Y wn rfl (yLbs (us := [h8.v]) ST_27 (et rfl rfl) hst (mtR mhR) rfl rfl) ?_
    obtain ⟨r12, gr12, hM⟩ := bs hM
    refine Yc wn rfl (yCall FN_24 (a1 (et rfl rfl))) (sparseref19_Parent_ok (hM := gr12) (hst := hst) (q1 := mhF)) ?_
    clear hst
    rintro _ w ⟨h13, rfl, hst⟩
    refine ⟨_, rfl, ?_⟩
    refine Y wn rfl (ym (v := .tuple #[h13.v, .int .i64 r12.2]) (et rfl rfl)) ?_
    refine Y wn rfl (yx (v := h13.v) (et rfl rfl) rfl) ?_
    refine Y wn rfl (yx (v := .int .i64 r12.2) (et rfl rfl) rfl) ?_
    refine Y wn rfl (ya (v := h13.v) (et rfl rfl)) ?_
    refine Y wn rfl (ya (v := .int .i64 r12.2) (et rfl rfl)) ?_
    refine wpList_nil ?_
    refine k7 _ _ ?_
    refine seqQ fun Q8 k8 z8 => ?_
    refine seqQ fun Q9 k9 z9 => ?_
    refine wp_region_lit ?_
    refine Y wn rfl (ym (v := .int .i64 r10.2) (et rfl rfl)) ?_
    refine Y wn rfl (yneq (et rfl rfl) rfl) ?_
    refine Y wn rfl (ym (v := .bool (!(decide (r10.2 = 0)))) (et rfl rfl)) ?_
    obtain ⟨r15, gr15, hM⟩ := bs hM
    refine joinW 5 (fun f w => f 6 = h11.v ∧ f 8 = h13.v ∧ f 47 = .bool r15 ∧ St w0 (imm (rI .i64) h11.v r10.1 :: imm (rI .i64) h13.v r12.1 :: ros) (rs) w) (fun j1 => ?_) ?_
    · rcases iteS gr15 with ⟨c17, gr15⟩ | ⟨c17, gr15⟩
      · refine Y (wg rfl rfl rfl (nF (decide_eq_true c17))) rfl (ym (v := h11.v) (et rfl rfl)) ?_
        refine Y (wg rfl rfl rfl (nF (decide_eq_true c17))) rfl (ym (v := h13.v) (et rfl rfl)) ?_
        obtain ⟨r18, gr18, gr15⟩ := bs gr15
        replace hst := hst.pk 2 [1, 0] rfl
        replace hst := hst.fz
        replace hst := hst.fz
        refine Yc (wg rfl rfl rfl (nF (decide_eq_true c17))) rfl (yCall FN_23 (a2 (et rfl rfl) (et rfl rfl))) (sparsekit_Ints_ok (hM := gr18) (hst := hst) (q1 := (mtF mhF)) (q2 := mhF)) ?_
        clear hst
        rintro _ w ⟨rfl, hst⟩
        refine ⟨_, rfl, ?_⟩
        refine Y (wg rfl rfl rfl (nF (decide_eq_true c17))) rfl (ynot (et rfl rfl)) ?_
        refine Y wn rfl (ypf (v := .bool (!(r18))) (et rfl rfl) (nF (decide_eq_true c17)) (et rfl rfl)) ?_
        obtain rfl := someI gr15
        exact j1 _ _ ⟨rfl, rfl, rfl, ((hst.pk 1 [] rfl).facts (allC (mtF mhF) (allC mhF (allT (allT (allT allI))))))⟩
      · refine Gn (wx rfl rfl rfl (nT (decide_eq_false c17))) rfl ?_
        refine Gn (wx rfl rfl rfl (nT (decide_eq_false c17))) rfl ?_
        refine Gn (wx rfl rfl rfl (nT (decide_eq_false c17))) rfl ?_
        refine Gn (wx rfl rfl rfl (nT (decide_eq_false c17))) rfl ?_
        refine Y wn rfl (ypt (v := .bool true) (et rfl rfl) (nT (decide_eq_false c17)) rfl) ?_
        obtain rfl := someI gr15
        replace hst := hst.pk 2 [1, 0] rfl
        replace hst := hst.fz
        replace hst := hst.fz
        exact j1 _ _ ⟨rfl, rfl, rfl, ((hst.pk 1 [] rfl).facts (allC (mtF mhF) (allC mhF (allT (allT (allT allI))))))⟩
    clear hst
    rintro f w ⟨e16_6, e16_8, e16_47, hst⟩
    refine wpList_nil ?_
    refine k9 _ _ ?_
    rcases iteS hM with ⟨c19, hM⟩ | ⟨c19, hM⟩
    · refine condT (et rfl e16_47) c19 ?_
      refine seqQ fun Q10 k10 z10 => ?_
      refine wp_region_lit ?_
      refine Y wn rfl (ya (v := .bool false) rfl) ?_
      refine wpList_nil ?_
      refine k10 _ _ ?_
      refine wp_ret ?_
      refine z8 _ _ _ rfl ?_
      obtain rfl := someI hM
      exact hQ _ _ _ (fin1r Try.results5 ⟨rfl, rfl⟩ ⟨rfl, (hst.facts (allT (allT allI)))⟩)
    · refine condF (et rfl e16_47) (bfalse c19) ?_
      refine wp_skip ?_
      refine k8 _ _ ?_
      refine seqQ fun Q11 k11 z11 => ?_
      refine wp_region_lit ?_
      refine Y wn rfl (ym (v := h11.v) (et rfl e16_6)) ?_
      obtain ⟨r20, gr20, hM⟩ := bs hM
      refine Yc wn rfl (yCall FN_17 (a1 (et rfl rfl))) (etree_Postorder_ok (hM := gr20) (hst := hst) (q1 := mhF)) ?_
      clear hst
      rintro _ w ⟨h21, rfl, hst⟩
      refine ⟨_, rfl, ?_⟩
      refine Y wn rfl (ym (v := .tuple #[h21.v, .int .i64 r20.2]) (et rfl rfl)) ?_
      refine Y wn rfl (yx (v := h21.v) (et rfl rfl) rfl) ?_
      refine Y wn rfl (yx (v := .int .i64 r20.2) (et rfl rfl) rfl) ?_
      refine Y wn rfl (ya (v := h21.v) (et rfl rfl)) ?_
      refine Y wn rfl (ya (v := .int .i64 r20.2) (et rfl rfl)) ?_
      refine wpList_nil ?_
      refine k11 _ _ ?_
      refine seqQ fun Q12 k12 z12 => ?_
      refine wp_region_lit ?_
      refine Y wn rfl (ym (v := h13.v) (et rfl e16_8)) ?_
      obtain ⟨r22, gr22, hM⟩ := bs hM
      refine Yc wn rfl (yCall FN_18 (a1 (et rfl rfl))) (sparseref19_Postorder_ok (hM := gr22) (hst := hst) (q1 := (mtF mhF))) ?_
      clear hst
      rintro _ w ⟨h23, rfl, hst⟩
      refine ⟨_, rfl, ?_⟩
      refine Y wn rfl (ym (v := .tuple #[h23.v, .int .i64 r22.2]) (et rfl rfl)) ?_
      refine Y wn rfl (yx (v := h23.v) (et rfl rfl) rfl) ?_
      refine Y wn rfl (yx (v := .int .i64 r22.2) (et rfl rfl) rfl) ?_
      refine Y wn rfl (ya (v := h23.v) (et rfl rfl)) ?_
      refine Y wn rfl (ya (v := .int .i64 r22.2) (et rfl rfl)) ?_
      refine wpList_nil ?_
      refine k12 _ _ ?_
      refine seqQ fun Q13 k13 z13 => ?_
      refine wp_region_lit ?_
      refine Y wn rfl (ym (v := h11.v) (et rfl e16_6)) ?_
      obtain ⟨r24, gr24, hM⟩ := bs hM
      refine Yc wn rfl (yCall FN_19 (a1 (et rfl rfl))) (etree_Depths_ok (hM := gr24) (hst := hst) (q1 := mhF)) ?_
      clear hst
      rintro _ w ⟨h25, rfl, hst⟩
      refine ⟨_, rfl, ?_⟩
      refine Y wn rfl (ym (v := .tuple #[h25.v, .int .i64 r24.2]) (et rfl rfl)) ?_
      refine Y wn rfl (yx (v := h25.v) (et rfl rfl) rfl) ?_
      refine Y wn rfl (yx (v := .int .i64 r24.2) (et rfl rfl) rfl) ?_
      refine Y wn rfl (ya (v := h25.v) (et rfl rfl)) ?_
      refine Y wn rfl (ya (v := .int .i64 r24.2) (et rfl rfl)) ?_
      refine wpList_nil ?_
      refine k13 _ _ ?_
      refine seqQ fun Q14 k14 z14 => ?_
      refine wp_region_lit ?_
      refine Y wn rfl (ym (v := h13.v) (et rfl e16_8)) ?_
      obtain ⟨r26, gr26, hM⟩ := bs hM
      refine Yc wn rfl (yCall FN_20 (a1 (et rfl rfl))) (sparseref19_Depths_ok (hM := gr26) (hst := hst) (q1 := (mtF mhF))) ?_
      clear hst
      rintro _ w ⟨h27, rfl, hst⟩
      refine ⟨_, rfl, ?_⟩
      refine Y wn rfl (ym (v := .tuple #[h27.v, .int .i64 r26.2]) (et rfl rfl)) ?_
      refine Y wn rfl (yx (v := h27.v) (et rfl rfl) rfl) ?_
      refine Y wn rfl (yx (v := .int .i64 r26.2) (et rfl rfl) rfl) ?_
      refine Y wn rfl (ya (v := h27.v) (et rfl rfl)) ?_
      refine Y wn rfl (ya (v := .int .i64 r26.2) (et rfl rfl)) ?_
      refine wpList_nil ?_
      refine k14 _ _ ?_
      refine seqQ fun Q15 k15 z15 => ?_
      refine wp_region_lit ?_
      refine Y wn rfl (ym (v := h11.v) (et rfl e16_6)) ?_
      obtain ⟨r28, gr28, hM⟩ := bs hM
      refine Yc wn rfl (yCall FN_21 (a1 (et rfl rfl))) (etree_Sizes_ok (hM := gr28) (hst := hst) (q1 := mhF)) ?_
      clear hst
      rintro _ w ⟨h29, rfl, hst⟩
      refine ⟨_, rfl, ?_⟩
      refine Y wn rfl (ym (v := .tuple #[h29.v, .int .i64 r28.2]) (et rfl rfl)) ?_
      refine Y wn rfl (yx (v := h29.v) (et rfl rfl) rfl) ?_
      refine Y wn rfl (yx (v := .int .i64 r28.2) (et rfl rfl) rfl) ?_
      refine Y wn rfl (ya (v := h29.v) (et rfl rfl)) ?_
      refine Y wn rfl (ya (v := .int .i64 r28.2) (et rfl rfl)) ?_
      refine wpList_nil ?_
      refine k15 _ _ ?_
      refine seqQ fun Q16 k16 z16 => ?_
      refine wp_region_lit ?_
      refine Y wn rfl (ym (v := h13.v) (et rfl e16_8)) ?_
      obtain ⟨r30, gr30, hM⟩ := bs hM
      refine Yc wn rfl (yCall FN_22 (a1 (et rfl rfl))) (sparseref19_Sizes_ok (hM := gr30) (hst := hst) (q1 := (mtF mhF))) ?_
      clear hst
      rintro _ w ⟨h31, rfl, hst⟩
      refine ⟨_, rfl, ?_⟩
      refine Y wn rfl (ym (v := .tuple #[h31.v, .int .i64 r30.2]) (et rfl rfl)) ?_
      refine Y wn rfl (yx (v := h31.v) (et rfl rfl) rfl) ?_
      refine Y wn rfl (yx (v := .int .i64 r30.2) (et rfl rfl) rfl) ?_
      refine Y wn rfl (ya (v := h31.v) (et rfl rfl)) ?_
      refine Y wn rfl (ya (v := .int .i64 r30.2) (et rfl rfl)) ?_
      refine wpList_nil ?_
      refine k16 _ _ ?_
      refine seqQ fun Q17 k17 z17 => ?_
      refine wp_region_lit ?_
      refine Y wn rfl (ym (v := .int .i64 r20.2) (et rfl rfl)) ?_
      refine Y wn rfl (yeql (et rfl rfl) rfl) ?_
      refine Y wn rfl (ym (v := .bool (decide (r20.2 = 0))) (et rfl rfl)) ?_
      refine joinW 3 (fun f w => f 10 = h21.v ∧ f 12 = h23.v ∧ f 14 = h25.v ∧ f 16 = h27.v ∧ f 18 = h29.v ∧ f 19 = .int .i64 r28.2 ∧ f 20 = h31.v ∧ f 83 = .bool ((decide (r20.2 = 0)) && (decide (r24.2 = 0))) ∧ St w0 (ros) (row 3 (rI .i64) h21.v r20.1 :: row 3 (rI .i64) h23.v r22.1 :: row 3 (rI .i64) h25.v r24.1 :: row 3 (rI .i64) h27.v r26.1 :: row 3 (rI .i64) h29.v r28.1 :: row 3 (rI .i64) h31.v r30.1 :: rs) w) (fun j2 => ?_) ?_
      · rcases Bool.eq_false_or_eq_true (decide (r20.2 = 0)) with c33 | c33
        · refine Y (wg rfl rfl rfl c33) rfl (ym (v := .int .i64 r24.2) (et rfl rfl)) ?_
          refine Y (wg rfl rfl rfl c33) rfl (yeql (et rfl rfl) rfl) ?_
          refine Y wn rfl (ypt (v := .bool (decide (r24.2 = 0))) (et rfl rfl) c33 (et rfl rfl)) ?_
          exact j2 _ _ ⟨rfl, rfl, rfl, rfl, rfl, rfl, rfl, (congrArg Value.bool (andT c33)), ((hst.pk 6 [5, 4, 3, 2, 1, 0] rfl).facts (allT (allT allI)))⟩
        · refine Gn (wx rfl rfl rfl c33) rfl ?_
          refine Gn (wx rfl rfl rfl c33) rfl ?_
          refine Y wn rfl (ypf (v := .bool false) (et rfl rfl) c33 rfl) ?_
          exact j2 _ _ ⟨rfl, rfl, rfl, rfl, rfl, rfl, rfl, (congrArg Value.bool (andF c33)), ((hst.pk 6 [5, 4, 3, 2, 1, 0] rfl).facts (allT (allT allI)))⟩
      clear hst
      rintro f w ⟨e32_10, e32_12, e32_14, e32_16, e32_18, e32_19, e32_20, e32_83, hst⟩
      refine Y wn rfl (ym (v := .bool ((decide (r20.2 = 0)) && (decide (r24.2 = 0)))) (et rfl e32_83)) ?_
      refine joinW 3 (fun f w => f 10 = h21.v ∧ f 12 = h23.v ∧ f 14 = h25.v ∧ f 16 = h27.v ∧ f 18 = h29.v ∧ f 20 = h31.v ∧ f 87 = .bool (((decide (r20.2 = 0)) && (decide (r24.2 = 0))) && (decide (r28.2 = 0))) ∧ St w0 (ros) (row 3 (rI .i64) h21.v r20.1 :: row 3 (rI .i64) h23.v r22.1 :: row 3 (rI .i64) h25.v r24.1 :: row 3 (rI .i64) h27.v r26.1 :: row 3 (rI .i64) h29.v r28.1 :: row 3 (rI .i64) h31.v r30.1 :: rs) w) (fun j3 => ?_) ?_
      · rcases Bool.eq_false_or_eq_true (((decide (r20.2 = 0)) && (decide (r24.2 = 0)))) with c35 | c35
        · refine Y (wg rfl rfl rfl c35) rfl (ym (v := .int .i64 r28.2) (et rfl e32_19)) ?_
          refine Y (wg rfl rfl rfl c35) rfl (yeql (et rfl rfl) rfl) ?_
          refine Y wn rfl (ypt (v := .bool (decide (r28.2 = 0))) (et rfl rfl) c35 (et rfl rfl)) ?_
          exact j3 _ _ ⟨e32_10, e32_12, e32_14, e32_16, e32_18, e32_20, (congrArg Value.bool (andT c35)), hst⟩
        · refine Gn (wx rfl rfl rfl c35) rfl ?_
          refine Gn (wx rfl rfl rfl c35) rfl ?_
          refine Y wn rfl (ypf (v := .bool false) (et rfl rfl) c35 rfl) ?_
          exact j3 _ _ ⟨e32_10, e32_12, e32_14, e32_16, e32_18, e32_20, (congrArg Value.bool (andF c35)), hst⟩
      clear hst
      rintro f w ⟨e34_10, e34_12, e34_14, e34_16, e34_18, e34_20, e34_87, hst⟩
      refine Y wn rfl (ym (v := .bool (((decide (r20.2 = 0)) && (decide (r24.2 = 0))) && (decide (r28.2 = 0)))) (et rfl e34_87)) ?_
      obtain ⟨r37, gr37, hM⟩ := bs hM
      refine joinW 4 (fun f w => f 14 = h25.v ∧ f 16 = h27.v ∧ f 18 = h29.v ∧ f 20 = h31.v ∧ f 92 = .bool r37 ∧ St w0 (ros) (row 3 (rI .i64) h25.v r24.1 :: row 3 (rI .i64) h27.v r26.1 :: row 3 (rI .i64) h29.v r28.1 :: row 3 (rI .i64) h31.v r30.1 :: rs) w) (fun j4 => ?_) ?_
      · rcases iteS gr37 with ⟨c39, gr37⟩ | ⟨c39, gr37⟩
        · refine Y (wg rfl rfl rfl c39) rfl (ym (v := h21.v) (et rfl e34_10)) ?_
          refine Y (wg rfl rfl rfl c39) rfl (ym (v := h23.v) (et rfl e34_12)) ?_
          obtain ⟨r40, gr40, gr37⟩ := bs gr37
          replace hst := hst.fz
          replace hst := hst.fz
          refine Yc (wg rfl rfl rfl c39) rfl (yCall FN_23 (a2 (et rfl rfl) (et rfl rfl))) (sparsekit_Ints_ok (hM := gr40) (hst := hst) (q1 := (mtF mhF)) (q2 := mhF)) ?_
          clear hst
          rintro _ w ⟨rfl, hst⟩
          refine ⟨_, rfl, ?_⟩
          refine Y wn rfl (ypt (v := .bool r40) (et rfl rfl) c39 (et rfl rfl)) ?_
          obtain rfl := someI gr37
          exact j4 _ _ ⟨e34_14, e34_16, e34_18, e34_20, rfl, (hst.facts (allT (allT allI)))⟩
        · refine Gn (wx rfl rfl rfl (bfalse c39)) rfl ?_
          refine Gn (wx rfl rfl rfl (bfalse c39)) rfl ?_
          refine Gn (wx rfl rfl rfl (bfalse c39)) rfl ?_
          refine Y wn rfl (ypf (v := .bool false) (et rfl rfl) (bfalse c39) rfl) ?_
          obtain rfl := someI gr37
          exact j4 _ _ ⟨e34_14, e34_16, e34_18, e34_20, rfl, (hst.pk 6 [2, 2, 2, 2] rfl)⟩
      clear hst
      rintro f w ⟨e38_14, e38_16, e38_18, e38_20, e38_92, hst⟩
      refine Y wn rfl (ym (v := .bool r37) (et rfl e38_92)) ?_
      obtain ⟨r42, gr42, hM⟩ := bs hM
      refine joinW 4 (fun f w => f 18 = h29.v ∧ f 20 = h31.v ∧ f 97 = .bool r42 ∧ St w0 (ros) (row 3 (rI .i64) h29.v r28.1 :: row 3 (rI .i64) h31.v r30.1 :: rs) w) (fun j5 => ?_) ?_
      · rcases iteS gr42 with ⟨c44, gr42⟩ | ⟨c44, gr42⟩
        · refine Y (wg rfl rfl rfl c44) rfl (ym (v := h25.v) (et rfl e38_14)) ?_
          refine Y (wg rfl rfl rfl c44) rfl (ym (v := h27.v) (et rfl e38_16)) ?_
          obtain ⟨r45, gr45, gr42⟩ := bs gr42
          replace hst := hst.fz
          replace hst := hst.fz
          refine Yc (wg rfl rfl rfl c44) rfl (yCall FN_23 (a2 (et rfl rfl) (et rfl rfl))) (sparsekit_Ints_ok (hM := gr45) (hst := hst) (q1 := (mtF mhF)) (q2 := mhF)) ?_
          clear hst
          rintro _ w ⟨rfl, hst⟩
          refine ⟨_, rfl, ?_⟩
          refine Y wn rfl (ypt (v := .bool r45) (et rfl rfl) c44 (et rfl rfl)) ?_
          obtain rfl := someI gr42
          exact j5 _ _ ⟨e38_18, e38_20, rfl, (hst.facts (allT (allT allI)))⟩
        · refine Gn (wx rfl rfl rfl (bfalse c44)) rfl ?_
          refine Gn (wx rfl rfl rfl (bfalse c44)) rfl ?_
          refine Gn (wx rfl rfl rfl (bfalse c44)) rfl ?_
          refine Y wn rfl (ypf (v := .bool false) (et rfl rfl) (bfalse c44) rfl) ?_
          obtain rfl := someI gr42
          exact j5 _ _ ⟨e38_18, e38_20, rfl, (hst.pk 4 [2, 2] rfl)⟩
      clear hst
      rintro f w ⟨e43_18, e43_20, e43_97, hst⟩
      refine Y wn rfl (ym (v := .bool r42) (et rfl e43_97)) ?_
      obtain ⟨r47, gr47, hM⟩ := bs hM
      refine joinW 4 (fun f w => f 102 = .bool r47 ∧ St w0 (ros) (rs) w) (fun j6 => ?_) ?_
      · rcases iteS gr47 with ⟨c49, gr47⟩ | ⟨c49, gr47⟩
        · refine Y (wg rfl rfl rfl c49) rfl (ym (v := h29.v) (et rfl e43_18)) ?_
          refine Y (wg rfl rfl rfl c49) rfl (ym (v := h31.v) (et rfl e43_20)) ?_
          obtain ⟨r50, gr50, gr47⟩ := bs gr47
          replace hst := hst.fz
          replace hst := hst.fz
          refine Yc (wg rfl rfl rfl c49) rfl (yCall FN_23 (a2 (et rfl rfl) (et rfl rfl))) (sparsekit_Ints_ok (hM := gr50) (hst := hst) (q1 := (mtF mhF)) (q2 := mhF)) ?_
          clear hst
          rintro _ w ⟨rfl, hst⟩
          refine ⟨_, rfl, ?_⟩
          refine Y wn rfl (ypt (v := .bool r50) (et rfl rfl) c49 (et rfl rfl)) ?_
          obtain rfl := someI gr47
          exact j6 _ _ ⟨rfl, (hst.facts (allT (allT allI)))⟩
        · refine Gn (wx rfl rfl rfl (bfalse c49)) rfl ?_
          refine Gn (wx rfl rfl rfl (bfalse c49)) rfl ?_
          refine Gn (wx rfl rfl rfl (bfalse c49)) rfl ?_
          refine Y wn rfl (ypf (v := .bool false) (et rfl rfl) (bfalse c49) rfl) ?_
          obtain rfl := someI gr47
          exact j6 _ _ ⟨rfl, (hst.pk 2 [] rfl)⟩
      clear hst
      rintro f w ⟨e48_102, hst⟩
      refine Y wn rfl (ym (v := .bool r47) (et rfl e48_102)) ?_
      obtain ⟨r52, gr52, hM⟩ := bs hM
      refine joinW 2 (fun f w => f 105 = .bool r52 ∧ St w0 (ros) (rs) w) (fun j7 => ?_) ?_
      · rcases iteS gr52 with ⟨c54, gr52⟩ | ⟨c54, gr52⟩
        · obtain ⟨r55, gr55, gr52⟩ := bs gr52
          refine Yc (wg rfl rfl rfl c54) rfl (yCall FN_10 a0) (sparselaw19_awake_ok (hM := gr55) (hst := hst) ) ?_
          clear hst
          rintro _ w ⟨rfl, hst⟩
          refine ⟨_, rfl, ?_⟩
          refine Y wn rfl (ypt (v := .bool r55) (et rfl rfl) c54 (et rfl rfl)) ?_
          obtain rfl := someI gr52
          exact j7 _ _ ⟨rfl, hst⟩
        · refine Gn (wx rfl rfl rfl (bfalse c54)) rfl ?_
          refine Y wn rfl (ypf (v := .bool false) (et rfl rfl) (bfalse c54) rfl) ?_
          obtain rfl := someI gr52
          exact j7 _ _ ⟨rfl, hst⟩
      clear hst
      rintro f w ⟨e53_105, hst⟩
      refine Y wn rfl (ya (v := .bool r52) (et rfl e53_105)) ?_
      refine wpList_nil ?_
      refine k17 _ _ ?_
      refine wp_ret ?_
      obtain rfl := someI hM
      exact hQ _ _ _ (fin1r Try.results5 ⟨rfl, rfl⟩ ⟨rfl, hst⟩)

theorem sparsemake_At_ok {w0 : World} {ros : List Fact} {rs : List Res} {w : World} {x1 : List Int} {x3 : Int} {h2 : Hdr} {out : Int} (hM : sparsemake_At x1 x3 = some out) (q1 : imm (rI .i64) h2.v x1 ∈ ros) (hst : St w0 ros (rs) w) :
    Calls Try.prog 47 #[h2.v, .int .i64 x3] w (fun e w => e = .returned (.int .i64 out) ∧ St w0 (ros) (rs) w) := by
  refine enterQ Try.func47 rfl Try.ntmps47 rfl fun Q hQ => ?_
  refine seqQ fun Q1 k1 z1 => ?_
  refine wp_region_lit ?_
  refine Y wn rfl (ya (v := .int .i64 0) rfl) ?_
  refine wpList_nil ?_
  refine k1 _ _ ?_
  refine seqQ fun Q2 k2 z2 => ?_
  refine seqQ fun Q3 k3 z3 => ?_
  refine wp_region_lit ?_
  refine Y wn rfl (ym (v := .int .i64 x3) (et rfl rfl)) ?_
  refine Y wn rfl (ym (v := h2.v) (et rfl rfl)) ?_
  refine Y wn rfl (yLen SL_22 (et rfl rfl) hst (rdI q1)) ?_
  refine Y wn rfl (ylss (et rfl rfl) (et rfl rfl)) ?_
  refine wpList_nil ?_
  refine k3 _ _ ?_
  rcases iteS hM with ⟨c4, hM⟩ | ⟨c4, hM⟩
  · refine condT (et rfl rfl) (decide_eq_true c4) ?_
    refine seqQ fun Q4 k4 z4 => ?_
    refine wp_region_lit ?_
    refine Y wn rfl (ym (v := h2.v) (et rfl rfl)) ?_
    refine Y wn rfl (ym (v := .int .i64 x3) (et rfl rfl)) ?_
    obtain ⟨x5, gx5, hM⟩ := bs hM
    refine Y wn rfl (yIa SL_22 (et rfl rfl) (et rfl rfl) hst (rdI q1) gx5) ?_
    refine Y wn rfl (yI O_3 (et rfl rfl) hst (rdI q1) gx5) ?_
    refine Y wn rfl (ya (v := .int .i64 x5) (et rfl rfl)) ?_
    refine wpList_nil ?_
    refine k4 _ _ ?_
    refine wp_ret ?_
    refine z2 _ _ _ rfl ?_
    obtain rfl := someI hM
    exact hQ _ _ _ (fin1r Try.results47 ⟨rfl, rfl⟩ ⟨rfl, hst⟩)
  · refine condF (et rfl rfl) (decide_eq_false c4) ?_
    refine wp_skip ?_
    refine k2 _ _ ?_
    refine seqQ fun Q5 k5 z5 => ?_
    refine wp_region_lit ?_
    refine Y wn rfl (ya (v := .int .i64 0) rfl) ?_
    refine wpList_nil ?_
    refine k5 _ _ ?_
    refine wp_ret ?_
    obtain rfl := someI hM
    exact hQ _ _ _ (fin1r Try.results47 ⟨rfl, rfl⟩ ⟨rfl, hst⟩)

theorem sparsemake_Tree_ok {w0 : World} {ros : List Fact} {rs : List Res} {w : World} {x1 : Int} {x2 : List Int} {h3 : Hdr} {out : (List Int)} (hM : sparsemake_Tree x1 x2 = some out) (q1 : imm (rI .i64) h3.v x2 ∈ ros) (hst : St w0 ros (rs) w) :
    Calls Try.prog 25 #[.int .i64 x1, h3.v] w (fun e w => ∃ (h100001 : Hdr), e = .returned (h100001.v) ∧ St w0 (ros) (row 3 (rI .i64) h100001.v out :: rs) w) := by
  refine enterQ Try.func25 rfl Try.ntmps25 rfl fun Q hQ => ?_
  refine seqQ fun Q1 k1 z1 => ?_
  refine wp_region_lit ?_
  refine Y wn rfl (ya (v := hnil.v) rfl) ?_
  refine wpList_nil ?_
  refine k1 _ _ ?_
  refine seqQ fun Q2 k2 z2 => ?_
  refine wp_region_lit ?_
  refine Y wn rfl (ya (v := hnil.v) rfl) ?_
  refine wpList_nil ?_
  refine k2 _ _ ?_
  refine seqQ fun Q3 k3 z3 => ?_
  refine seqQ fun Q4 k4 z4 => ?_
  refine wp_region_lit ?_
  refine Y wn rfl (ya (v := .int .i64 0) rfl) ?_
  refine wpList_nil ?_
  refine k4 _ _ ?_
  refine blockQ fun Q5 q5 => ?_
  obtain ⟨o3, go3, hM⟩ := bs hM
  have je3_0 : ∀ (x27 : List Int) (h26 : Hdr) (f : Nat → Value) (w : World), f 5 = h26.v → St w0 (ros) (row 3 (rI .i64) h26.v x27 :: rs) w → x27 = o3 → Q5 (.exit 0) (fr 30 f) w := by
    intro x27 h26 f w eje3_0_5 hst ho
    subst ho
    refine q5 _ _ _ ?_
    refine k3 _ _ ?_
    refine seqQ fun Q20 k20 z20 => ?_
    refine wp_region_lit ?_
    refine Y wn rfl (ym (v := h26.v) (et rfl eje3_0_5)) ?_
    refine Y wn rfl (ya (v := h26.v) (et rfl rfl)) ?_
    refine wpList_nil ?_
    refine k20 _ _ ?_
    refine wp_ret ?_
    obtain rfl := someI hM
    exact hQ _ _ _ (fin1r Try.results25 ⟨rfl, rfl⟩ ⟨_, rfl, hst⟩)
  replace hst := hst.rowNh 3 (rI .i64)
  refine loopQ (fun s a w => ∃ (x13 : List Int) (x14 : Int) (f : Nat → Value) (h12 : Hdr), (x13, x14) = s ∧ a = fr 30 f ∧ f 0 = .int .i64 x1 ∧ f 1 = h3.v ∧ f 5 = h12.v ∧ f 6 = .int .i64 x14 ∧ St w0 (ros) (row 3 (rI .i64) h12.v x13 :: rs) w) go3 ⟨_, _, _, _, rfl, rfl, rfl, rfl, rfl, rfl, hst⟩ ?_
  clear hst
  rintro _ _ w r3_ ⟨x13, x14, f, h12, rfl, rfl, e3_0, e3_1, e3_5, e3_6, hst⟩ hM3 ho3 Q100003 n3 zz3
  refine seqQ fun Q21 k21 z21 => ?_
  refine seqQ fun Q22 k22 z22 => ?_
  refine wp_region_lit ?_
  refine Y wn rfl (ym (v := .int .i64 x14) (et rfl e3_6)) ?_
  refine Y wn rfl (ym (v := .int .i64 x1) (et rfl e3_0)) ?_
  refine Y wn rfl (ylss (et rfl rfl) (et rfl rfl)) ?_
  refine wpList_nil ?_
  refine k22 _ _ ?_
  rcases iteS hM3 with ⟨c28, hM3⟩ | ⟨c28, hM3⟩
  · refine condT (et rfl rfl) (decide_eq_true c28) ?_
    refine wp_skip ?_
    refine k21 _ _ ?_
    refine seqQ fun Q23 k23 z23 => ?_
    refine blockQ fun Q24 q24 => ?_
    refine seqQ fun Q25 k25 z25 => ?_
    refine wp_region_lit ?_
    refine Y wn rfl (ym (v := .int .i64 x14) (et rfl e3_6)) ?_
    refine Y wn rfl (ym (v := h3.v) (et rfl e3_1)) ?_
    refine Y wn rfl (ym (v := .int .i64 x14) (et rfl e3_6)) ?_
    obtain ⟨r29, gr29, hM3⟩ := bs hM3
    refine Yc wn rfl (yCall FN_47 (a2 (et rfl rfl) (et rfl rfl))) (sparsemake_At_ok (hM := gr29) (hst := hst) (q1 := q1)) ?_
    clear hst
    rintro _ w ⟨rfl, hst⟩
    refine ⟨_, rfl, ?_⟩
    refine Y wn rfl (ym (v := .int .i64 x1) (et rfl e3_0)) ?_
    refine Y wn rfl (ym (v := .int .i64 x14) (et rfl e3_6)) ?_
    refine Y wn rfl (ysub (et rfl rfl) (et rfl rfl)) ?_
    obtain ⟨r30, gr30, hM3⟩ := bs hM3
    refine Yc wn rfl (yCall FN_11 (a2 (et rfl rfl) (et rfl rfl))) (sparsekit_Place_ok (hM := gr30) (hst := hst) ) ?_
    clear hst
    rintro _ w ⟨rfl, hst⟩
    refine ⟨_, rfl, ?_⟩
    refine Y wn rfl (yadd (et rfl rfl) (et rfl rfl)) ?_
    refine Y wn rfl (ya (v := .int .i64 (wa .i64 x14 r30)) (et rfl rfl)) ?_
    refine wpList_nil ?_
    refine k25 _ _ ?_
    refine seqQ fun Q26 k26 z26 => ?_
    refine seqQ fun Q27 k27 z27 => ?_
    refine wp_region_lit ?_
    refine Y wn rfl (ym (v := .int .i64 (wa .i64 x14 r30)) (et rfl rfl)) ?_
    refine Y wn rfl (ym (v := .int .i64 x14) (et rfl e3_6)) ?_
    refine Y wn rfl (yeql (et rfl rfl) (et rfl rfl)) ?_
    refine wpList_nil ?_
    refine k27 _ _ ?_
    have j4 : ∀ (x31 : Int) (f : Nat → Value) (w : World), f 0 = .int .i64 x1 → f 1 = h3.v → f 5 = h12.v → f 6 = .int .i64 x14 → f 7 = .int .i64 x31 → St w0 (ros) (row 3 (rI .i64) h12.v x13 :: rs) w → sparsemake_Tree_j4 x13 x14 x31 = some r3_ → Q26 .normal (fr 30 f) w := by
      intro x31 f w ej4_0 ej4_1 ej4_5 ej4_6 ej4_7 hst hM
      refine k26 _ _ ?_
      refine wp_region_lit ?_
      refine Y wn rfl (ym (v := h12.v) (et rfl ej4_5)) ?_
      refine Y wn rfl (ym (v := .int .i64 x31) (et rfl ej4_7)) ?_
      refine YH wn rfl (rLt (n := 1) (l := [x31]) hst SL_22 [.int .i64 x31] (bp1 (et rfl rfl)) rfl rfl (mks1 (cs := [.int .i64 x31]) rfl mkI mks0)) ?_
      clear hst
      intro h32 w hst
      obtain ⟨x34, gx34, hM⟩ := bs hM
      replace hst := hst.pk 2 [1, 0] rfl
      refine YH wn rfl (rAp hst SL_22 (et rfl rfl) (et rfl rfl) (rdO (mtR mhR)) gx34) ?_
      clear hst
      intro h33 w hst
      refine Y wn rfl (ya (v := h33.v) (et rfl rfl)) ?_
      refine wpList_nil ?_
      refine q24 _ _ _ ?_
      refine k23 _ _ ?_
      refine wp_region_lit ?_
      refine Y wn rfl (ym (v := .int .i64 x14) (et rfl ej4_6)) ?_
      refine Y wn rfl (yadd (et rfl rfl) rfl) ?_
      refine Y wn rfl (ya (v := .int .i64 (wa .i64 x14 1)) (et rfl rfl)) ?_
      refine wpList_nil ?_
      obtain rfl := someI hM
      exact n3 _ _ _ rfl ⟨_, _, _, _, rfl, rfl, ej4_0, ej4_1, rfl, rfl, (hst.pk 2 [0] rfl)⟩
    rcases iteS hM3 with ⟨c35, hM3⟩ | ⟨c35, hM3⟩
    · refine condT (et rfl rfl) (decide_eq_true c35) ?_
      refine wp_region_lit ?_
      refine Y wn rfl (ya (v := .int .i64 (-1)) rfl) ?_
      refine wpList_nil ?_
      exact j4 _ _ _ e3_0 e3_1 e3_5 e3_6 rfl hst hM3
    · refine condF (et rfl rfl) (decide_eq_false c35) ?_
      refine wp_skip ?_
      exact j4 _ _ _ e3_0 e3_1 e3_5 e3_6 rfl hst hM3
  · refine condF (et rfl rfl) (decide_eq_false c28) ?_
    refine wp_exit ?_
    refine z21 _ _ _ rfl ?_
    obtain rfl := someI hM3
    refine zz3 _ _ _ _ rfl rfl ?_
    exact je3_0 _ _ _ _ e3_5 hst (ho3 _ rfl)

theorem sparsekit_Perm_ok {w0 : World} {ros : List Fact} {rs : List Res} {w : World} {x1 : List Int} {x3 : Int} {h2 : Hdr} {out : Bool} (hM : sparsekit_Perm x1 x3 = some out) (q1 : imm (rI .i64) h2.v x1 ∈ ros) (hst : St w0 ros (rs) w) :
    Calls Try.prog 26 #[h2.v, .int .i64 x3] w (fun e w => e = .returned (.bool out) ∧ St w0 (ros) (rs) w) := by
  refine enterQ Try.func26 rfl Try.ntmps26 rfl fun Q hQ => ?_
  refine seqQ fun Q1 k1 z1 => ?_
  refine wp_region_lit ?_
  refine Y wn rfl (ya (v := .bool false) rfl) ?_
  refine wpList_nil ?_
  refine k1 _ _ ?_
  refine seqQ fun Q2 k2 z2 => ?_
  refine seqQ fun Q3 k3 z3 => ?_
  refine wp_region_lit ?_
  refine Y wn rfl (ym (v := h2.v) (et rfl rfl)) ?_
  refine Y wn rfl (yLen SL_22 (et rfl rfl) hst (rdI q1)) ?_
  refine Y wn rfl (ym (v := .int .i64 x3) (et rfl rfl)) ?_
  refine Y wn rfl (yneq (et rfl rfl) (et rfl rfl)) ?_
  refine wpList_nil ?_
  refine k3 _ _ ?_
  rcases iteS hM with ⟨c4, hM⟩ | ⟨c4, hM⟩
  · refine condF (et rfl rfl) (nF (decide_eq_true c4)) ?_
    refine wp_skip ?_
    refine k2 _ _ ?_
    refine seqQ fun Q4 k4 z4 => ?_
    refine wp_region_lit ?_
    refine Y wn rfl (ym (v := .int .i64 x3) (et rfl rfl)) ?_
    obtain ⟨x7, gx7, hM⟩ := bs hM
    refine YH wn rfl (rMk hst SL_54 (et rfl rfl) gx7) ?_
    clear hst
    intro h5 w hst
    refine Y wn rfl (ya (v := h5.v) (et rfl rfl)) ?_
    refine wpList_nil ?_
    refine k4 _ _ ?_
    refine seqQ fun Q5 k5 z5 => ?_
    refine seqQ fun Q6 k6 z6 => ?_
    refine wp_region_lit ?_
    refine Y wn rfl (ya (v := .int .i64 0) rfl) ?_
    refine wpList_nil ?_
    refine k6 _ _ ?_
    refine blockQ fun Q7 q7 => ?_
    obtain ⟨o5, go5, hM⟩ := bs hM
    have je5_0 : ∀ (f : Nat → Value) (w : World), St w0 (ros) (rs) w → .inl () = o5 → Q7 (.exit 0) (fr 46 f) w := by
      intro f w hst ho
      subst ho
      refine q7 _ _ _ ?_
      refine k5 _ _ ?_
      refine seqQ fun Q22 k22 z22 => ?_
      refine wp_region_lit ?_
      refine Y wn rfl (ya (v := .bool true) rfl) ?_
      refine wpList_nil ?_
      refine k22 _ _ ?_
      refine wp_ret ?_
      obtain rfl := someI hM
      exact hQ _ _ _ (fin1r Try.results26 ⟨rfl, rfl⟩ ⟨rfl, hst⟩)
    have je5_1 : ∀ (f : Nat → Value) (w : World), f 4 = .bool false → St w0 (ros) (rs) w → .inr () = o5 → Q7 .ret (fr 46 f) w := by
      intro f w eje5_1_4 hst ho
      subst ho
      refine q7 _ _ _ ?_
      refine z5 _ _ _ rfl ?_
      obtain rfl := someI hM
      exact hQ _ _ _ (fin1r Try.results26 ⟨rfl, eje5_1_4⟩ ⟨rfl, hst⟩)
    refine loopQ (fun s a w => ∃ (x25 : List Bool) (x26 : Int) (f : Nat → Value), (x25, x26) = s ∧ a = fr 46 f ∧ f 0 = h2.v ∧ f 1 = .int .i64 x3 ∧ f 5 = h5.v ∧ f 6 = .int .i64 x26 ∧ St w0 (ros) (row 4 rB h5.v x25 :: rs) w) go5 ⟨_, _, _, rfl, rfl, rfl, rfl, rfl, rfl, hst⟩ ?_
    clear hst
    rintro _ _ w r5_ ⟨x25, x26, f, rfl, rfl, e5_0, e5_1, e5_5, e5_6, hst⟩ hM5 ho5 Q100005 n5 zz5
    refine seqQ fun Q23 k23 z23 => ?_
    refine seqQ fun Q24 k24 z24 => ?_
    refine wp_region_lit ?_
    refine Y wn rfl (ym (v := .int .i64 x26) (et rfl e5_6)) ?_
    refine Y wn rfl (ym (v := .int .i64 x3) (et rfl e5_1)) ?_
    refine Y wn rfl (ylss (et rfl rfl) (et rfl rfl)) ?_
    refine wpList_nil ?_
    refine k24 _ _ ?_
    rcases iteS hM5 with ⟨c46, hM5⟩ | ⟨c46, hM5⟩
    · refine condT (et rfl rfl) (decide_eq_true c46) ?_
      refine wp_skip ?_
      refine k23 _ _ ?_
      refine seqQ fun Q25 k25 z25 => ?_
      refine blockQ fun Q26 q26 => ?_
      refine seqQ fun Q27 k27 z27 => ?_
      refine seqQ fun Q28 k28 z28 => ?_
      refine wp_region_lit ?_
      refine Y wn rfl (ym (v := h2.v) (et rfl e5_0)) ?_
      refine Y wn rfl (ym (v := .int .i64 x26) (et rfl e5_6)) ?_
      obtain ⟨x47, gx47, hM5⟩ := bs hM5
      refine Y wn rfl (yIa SL_22 (et rfl rfl) (et rfl rfl) hst (rdI q1) gx47) ?_
      refine Y wn rfl (yI O_3 (et rfl rfl) hst (rdI q1) gx47) ?_
      refine Y wn rfl (ylss (et rfl rfl) rfl) ?_
      refine Y wn rfl (ym (v := .bool (decide (x47 < 0))) (et rfl rfl)) ?_
      obtain ⟨r49, gr49, hM5⟩ := bs hM5
      refine joinW 7 (fun f w => f 0 = h2.v ∧ f 1 = .int .i64 x3 ∧ f 5 = h5.v ∧ f 6 = .int .i64 x26 ∧ f 30 = .bool r49 ∧ St w0 (ros) (row 4 rB h5.v x25 :: rs) w) (fun j6 => ?_) ?_
      · rcases iteS gr49 with ⟨c51, gr49⟩ | ⟨c51, gr49⟩
        · refine Gn (wx rfl rfl rfl (decide_eq_true c51)) rfl ?_
          refine Gn (wx rfl rfl rfl (decide_eq_true c51)) rfl ?_
          refine Gn (wx rfl rfl rfl (decide_eq_true c51)) rfl ?_
          refine Gn (wx rfl rfl rfl (decide_eq_true c51)) rfl ?_
          refine Gn (wx rfl rfl rfl (decide_eq_true c51)) rfl ?_
          refine Gn (wx rfl rfl rfl (decide_eq_true c51)) rfl ?_
          refine Y wn rfl (ypt (v := .bool true) (et rfl rfl) (decide_eq_true c51) rfl) ?_
          obtain rfl := someI gr49
          exact j6 _ _ ⟨e5_0, e5_1, e5_5, e5_6, rfl, hst⟩
        · refine Y (wg rfl rfl rfl (decide_eq_false c51)) rfl (ym (v := h2.v) (et rfl e5_0)) ?_
          refine Y (wg rfl rfl rfl (decide_eq_false c51)) rfl (ym (v := .int .i64 x26) (et rfl e5_6)) ?_
          obtain ⟨x52, gx52, gr49⟩ := bs gr49
          refine Y (wg rfl rfl rfl (decide_eq_false c51)) rfl (yIa SL_22 (et rfl rfl) (et rfl rfl) hst (rdI q1) gx52) ?_
          refine Y (wg rfl rfl rfl (decide_eq_false c51)) rfl (yI O_3 (et rfl rfl) hst (rdI q1) gx52) ?_
          refine Y (wg rfl rfl rfl (decide_eq_false c51)) rfl (ym (v := .int .i64 x3) (et rfl e5_1)) ?_
          refine Y (wg rfl rfl rfl (decide_eq_false c51)) rfl (ygeq (et rfl rfl) (et rfl rfl)) ?_
          refine Y wn rfl (ypf (v := .bool (decide (x3 ≤ x52))) (et rfl rfl) (decide_eq_false c51) (et rfl rfl)) ?_
          obtain rfl := someI gr49
          exact j6 _ _ ⟨e5_0, e5_1, e5_5, e5_6, rfl, hst⟩
      clear hst
      rintro f w ⟨e50_0, e50_1, e50_5, e50_6, e50_30, hst⟩
      refine Y wn rfl (ym (v := .bool r49) (et rfl e50_30)) ?_
      obtain ⟨r55, gr55, hM5⟩ := bs hM5
      refine joinW 8 (fun f w => f 0 = h2.v ∧ f 1 = .int .i64 x3 ∧ f 5 = h5.v ∧ f 6 = .int .i64 x26 ∧ f 39 = .bool r55 ∧ St w0 (ros) (row 4 rB h5.v x25 :: rs) w) (fun j7 => ?_) ?_
      · rcases iteS gr55 with ⟨c57, gr55⟩ | ⟨c57, gr55⟩
        · refine Gn (wx rfl rfl rfl c57) rfl ?_
          refine Gn (wx rfl rfl rfl c57) rfl ?_
          refine Gn (wx rfl rfl rfl c57) rfl ?_
          refine Gn (wx rfl rfl rfl c57) rfl ?_
          refine Gn (wx rfl rfl rfl c57) rfl ?_
          refine Gn (wx rfl rfl rfl c57) rfl ?_
          refine Gn (wx rfl rfl rfl c57) rfl ?_
          refine Y wn rfl (ypt (v := .bool true) (et rfl rfl) c57 rfl) ?_
          obtain rfl := someI gr55
          exact j7 _ _ ⟨e50_0, e50_1, e50_5, e50_6, rfl, hst⟩
        · refine Y (wg rfl rfl rfl (bfalse c57)) rfl (ym (v := h5.v) (et rfl e50_5)) ?_
          refine Y (wg rfl rfl rfl (bfalse c57)) rfl (ym (v := h2.v) (et rfl e50_0)) ?_
          refine Y (wg rfl rfl rfl (bfalse c57)) rfl (ym (v := .int .i64 x26) (et rfl e50_6)) ?_
          obtain ⟨x58, gx58, gr55⟩ := bs gr55
          refine Y (wg rfl rfl rfl (bfalse c57)) rfl (yIa SL_22 (et rfl rfl) (et rfl rfl) hst (rdI q1) gx58) ?_
          refine Y (wg rfl rfl rfl (bfalse c57)) rfl (yI O_3 (et rfl rfl) hst (rdI q1) gx58) ?_
          obtain ⟨x59, gx59, gr55⟩ := bs gr55
          refine Y (wg rfl rfl rfl (bfalse c57)) rfl (yIa SL_54 (et rfl rfl) (et rfl rfl) hst (rdO mhR) gx59) ?_
          refine Y (wg rfl rfl rfl (bfalse c57)) rfl (yB O_4 (et rfl rfl) hst (rdO mhR) gx59) ?_
          refine Y wn rfl (ypf (v := .bool x59) (et rfl rfl) (bfalse c57) (et rfl rfl)) ?_
          obtain rfl := someI gr55
          exact j7 _ _ ⟨e50_0, e50_1, e50_5, e50_6, rfl, hst⟩
      clear hst
      rintro f w ⟨e56_0, e56_1, e56_5, e56_6, e56_39, hst⟩
      refine wpList_nil ?_
      refine k28 _ _ ?_
      rcases iteS hM5 with ⟨c60, hM5⟩ | ⟨c60, hM5⟩
      · refine condT (et rfl e56_39) c60 ?_
        refine seqQ fun Q29 k29 z29 => ?_
        refine wp_region_lit ?_
        refine Y wn rfl (ya (v := .bool false) rfl) ?_
        refine wpList_nil ?_
        refine k29 _ _ ?_
        refine wp_ret ?_
        refine z27 _ _ _ rfl ?_
        refine q26 _ _ _ ?_
        refine z25 _ _ _ rfl ?_
        obtain rfl := someI hM5
        refine zz5 _ _ _ _ rfl rfl ?_
        exact je5_1 _ _ rfl (hst.pk 1 [] rfl) (ho5 _ rfl)
      · refine condF (et rfl e56_39) (bfalse c60) ?_
        refine wp_skip ?_
        refine k27 _ _ ?_
        refine wp_region_lit ?_
        refine Y wn rfl (ym (v := h5.v) (et rfl e56_5)) ?_
        refine Y wn rfl (ym (v := h2.v) (et rfl e56_0)) ?_
        refine Y wn rfl (ym (v := .int .i64 x26) (et rfl e56_6)) ?_
        obtain ⟨x61, gx61, hM5⟩ := bs hM5
        refine Y wn rfl (yIa SL_22 (et rfl rfl) (et rfl rfl) hst (rdI q1) gx61) ?_
        refine Y wn rfl (yI O_3 (et rfl rfl) hst (rdI q1) gx61) ?_
        obtain ⟨x62, gx62, hM5⟩ := bs hM5
        refine Y wn rfl (yIs SL_54 (et rfl rfl) (et rfl rfl) hst (rdO mhR) gx62) ?_
        refine YT wn rfl (r_sti (cs := [.bool true]) hst O_4 rfl (et rfl rfl) rfl rfl mkB gx62) ?_
        clear hst
        intro w hst
        refine wpList_nil ?_
        refine q26 _ _ _ ?_
        refine k25 _ _ ?_
        refine wp_region_lit ?_
        refine Y wn rfl (ym (v := .int .i64 x26) (et rfl e56_6)) ?_
        refine Y wn rfl (yadd (et rfl rfl) rfl) ?_
        refine Y wn rfl (ya (v := .int .i64 (wa .i64 x26 1)) (et rfl rfl)) ?_
        refine wpList_nil ?_
        obtain rfl := someI hM5
        exact n5 _ _ _ rfl ⟨_, _, _, rfl, rfl, e56_0, e56_1, e56_5, rfl, hst⟩
    · refine condF (et rfl rfl) (decide_eq_false c46) ?_
      refine wp_exit ?_
      refine z23 _ _ _ rfl ?_
      obtain rfl := someI hM5
      refine zz5 _ _ _ _ rfl rfl ?_
      exact je5_0 _ _ (hst.pk 1 [] rfl) (ho5 _ rfl)
  · refine condT (et rfl rfl) (nT (decide_eq_false c4)) ?_
    refine seqQ fun Q30 k30 z30 => ?_
    refine wp_region_lit ?_
    refine Y wn rfl (ya (v := .bool false) rfl) ?_
    refine wpList_nil ?_
    refine k30 _ _ ?_
    refine wp_ret ?_
    refine z2 _ _ _ rfl ?_
    obtain rfl := someI hM
    exact hQ _ _ _ (fin1r Try.results26 ⟨rfl, rfl⟩ ⟨rfl, hst⟩)

theorem sparsekit_Invert_ok {w0 : World} {ros : List Fact} {rs : List Res} {w : World} {x1 : List Int} {h2 : Hdr} {out : (List Int)} (hM : sparsekit_Invert x1 = some out) (q1 : imm (rI .i64) h2.v x1 ∈ ros) (hst : St w0 ros (rs) w) :
    Calls Try.prog 27 #[h2.v] w (fun e w => ∃ (h100001 : Hdr), e = .returned (h100001.v) ∧ St w0 (ros) (row 3 (rI .i64) h100001.v out :: rs) w) := by
  refine enterQ Try.func27 rfl Try.ntmps27 rfl fun Q hQ => ?_
  refine seqQ fun Q1 k1 z1 => ?_
  refine wp_region_lit ?_
  refine Y wn rfl (ya (v := hnil.v) rfl) ?_
  refine wpList_nil ?_
  refine k1 _ _ ?_
  refine seqQ fun Q2 k2 z2 => ?_
  refine wp_region_lit ?_
  refine Y wn rfl (ym (v := h2.v) (et rfl rfl)) ?_
  refine Y wn rfl (yLen SL_22 (et rfl rfl) hst (rdI q1)) ?_
  obtain ⟨x5, gx5, hM⟩ := bs hM
  refine YH wn rfl (rMk hst SL_22 (et rfl rfl) gx5) ?_
  clear hst
  intro h3 w hst
  refine Y wn rfl (ya (v := h3.v) (et rfl rfl)) ?_
  refine wpList_nil ?_
  refine k2 _ _ ?_
  refine seqQ fun Q3 k3 z3 => ?_
  refine seqQ fun Q4 k4 z4 => ?_
  refine wp_region_lit ?_
  refine Y wn rfl (ya (v := .int .i64 0) rfl) ?_
  refine wpList_nil ?_
  refine k4 _ _ ?_
  refine blockQ fun Q5 q5 => ?_
  obtain ⟨o1, go1, hM⟩ := bs hM
  have je1_0 : ∀ (x16 : List Int) (f : Nat → Value) (w : World), f 3 = h3.v → St w0 (ros) (row 3 (rI .i64) h3.v x16 :: rs) w → x16 = o1 → Q5 (.exit 0) (fr 22 f) w := by
    intro x16 f w eje1_0_3 hst ho
    subst ho
    refine q5 _ _ _ ?_
    refine k3 _ _ ?_
    refine seqQ fun Q14 k14 z14 => ?_
    refine wp_region_lit ?_
    refine Y wn rfl (ym (v := h3.v) (et rfl eje1_0_3)) ?_
    refine Y wn rfl (ya (v := h3.v) (et rfl rfl)) ?_
    refine wpList_nil ?_
    refine k14 _ _ ?_
    refine wp_ret ?_
    obtain rfl := someI hM
    exact hQ _ _ _ (fin1r Try.results27 ⟨rfl, rfl⟩ ⟨_, rfl, hst⟩)
  refine loopQ (fun s a w => ∃ (x9 : List Int) (x10 : Int) (f : Nat → Value), (x9, x10) = s ∧ a = fr 22 f ∧ f 0 = h2.v ∧ f 3 = h3.v ∧ f 4 = .int .i64 x10 ∧ St w0 (ros) (row 3 (rI .i64) h3.v x9 :: rs) w) go1 ⟨_, _, _, rfl, rfl, rfl, rfl, rfl, hst⟩ ?_
  clear hst
  rintro _ _ w r1_ ⟨x9, x10, f, rfl, rfl, e1_0, e1_3, e1_4, hst⟩ hM1 ho1 Q100001 n1 zz1
  refine seqQ fun Q15 k15 z15 => ?_
  refine seqQ fun Q16 k16 z16 => ?_
  refine wp_region_lit ?_
  refine Y wn rfl (ym (v := .int .i64 x10) (et rfl e1_4)) ?_
  refine Y wn rfl (ym (v := h2.v) (et rfl e1_0)) ?_
  refine Y wn rfl (yLen SL_22 (et rfl rfl) hst (rdI q1)) ?_
  refine Y wn rfl (ylss (et rfl rfl) (et rfl rfl)) ?_
  refine wpList_nil ?_
  refine k16 _ _ ?_
  rcases iteS hM1 with ⟨c17, hM1⟩ | ⟨c17, hM1⟩
  · refine condT (et rfl rfl) (decide_eq_true c17) ?_
    refine wp_skip ?_
    refine k15 _ _ ?_
    refine seqQ fun Q17 k17 z17 => ?_
    refine blockQ fun Q18 q18 => ?_
    refine wp_region_lit ?_
    refine Y wn rfl (ym (v := h3.v) (et rfl e1_3)) ?_
    refine Y wn rfl (ym (v := h2.v) (et rfl e1_0)) ?_
    refine Y wn rfl (ym (v := .int .i64 x10) (et rfl e1_4)) ?_
    obtain ⟨x18, gx18, hM1⟩ := bs hM1
    refine Y wn rfl (yIa SL_22 (et rfl rfl) (et rfl rfl) hst (rdI q1) gx18) ?_
    refine Y wn rfl (yI O_3 (et rfl rfl) hst (rdI q1) gx18) ?_
    refine Y wn rfl (ym (v := .int .i64 x10) (et rfl e1_4)) ?_
    obtain ⟨x19, gx19, hM1⟩ := bs hM1
    refine Y wn rfl (yIs SL_22 (et rfl rfl) (et rfl rfl) hst (rdO mhR) gx19) ?_
    refine YT wn rfl (r_sti (cs := [.int .i64 x10]) hst O_3 rfl (et rfl rfl) (et rfl rfl) rfl mkI gx19) ?_
    clear hst
    intro w hst
    refine wpList_nil ?_
    refine q18 _ _ _ ?_
    refine k17 _ _ ?_
    refine wp_region_lit ?_
    refine Y wn rfl (ym (v := .int .i64 x10) (et rfl e1_4)) ?_
    refine Y wn rfl (yadd (et rfl rfl) rfl) ?_
    refine Y wn rfl (ya (v := .int .i64 (wa .i64 x10 1)) (et rfl rfl)) ?_
    refine wpList_nil ?_
    obtain rfl := someI hM1
    exact n1 _ _ _ rfl ⟨_, _, _, rfl, rfl, e1_0, e1_3, rfl, hst⟩
  · refine condF (et rfl rfl) (decide_eq_false c17) ?_
    refine wp_exit ?_
    refine z15 _ _ _ rfl ?_
    obtain rfl := someI hM1
    refine zz1 _ _ _ _ rfl rfl ?_
    exact je1_0 _ _ _ e1_3 hst (ho1 _ rfl)
end Go.Proofs.Ytoelidgkfpmgnaa
