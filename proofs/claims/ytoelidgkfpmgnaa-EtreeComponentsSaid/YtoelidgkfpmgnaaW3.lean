/- Walks: each function computes its model, printed. -/
import Derived.Test.YtoelidgkfpmgnaaW2
namespace Go.Proofs.Ytoelidgkfpmgnaa
open Go Sx M
set_option maxRecDepth 100000
set_option maxHeartbeats 400000
set_option linter.unusedVariables false
attribute [local irreducible] wpList Code.wp Calls DR QR QS LA LS St
theorem sparselaw19_EtreeMade_ok {w0 : World} {ros : List Fact} {rs : List Res} {w : World} {x1 : Int} {x2 : List Int} {h3 : Hdr} {out : Bool} (hM : sparselaw19_EtreeMade x1 x2 = some out) (q1 : imm (rI .i64) h3.v x2 ∈ ros) (hst : St w0 ros (rs) w) :
    Calls Try.prog 5 #[.int .i64 x1, h3.v] w (fun e w => e = .returned (.bool out) ∧ St w0 (ros) (rs) w) := by
  refine enterQ Try.func5 rfl Try.ntmps5 rfl fun Q hQ => ?_
  refine seqQ fun Q1 k1 z1 => ?_
  refine wp_region_lit ?_
  refine Y wn rfl (ya (v := .bool false) rfl) ?_
  refine wpList_nil ?_
  refine k1 _ _ ?_
  refine seqQ fun Q2 k2 z2 => ?_
  refine seqQ fun Q3 k3 z3 => ?_
  refine wp_region_lit ?_
  refine Y wn rfl (ym (v := h3.v) (et rfl rfl)) ?_
  refine Y wn rfl (yLen SL_22 (et rfl rfl) hst (rdI q1)) ?_
  refine Y wn rfl (ygtr (et rfl rfl) rfl) ?_
  refine wpList_nil ?_
  refine k3 _ _ ?_
  rcases iteS hM with ⟨c4, hM⟩ | ⟨c4, hM⟩
  · refine condT (et rfl rfl) (decide_eq_true c4) ?_
    refine seqQ fun Q4 k4 z4 => ?_
    refine wp_region_lit ?_
    obtain ⟨r5, gr5, hM⟩ := bs hM
    refine Yc wn rfl (yCall FN_10 a0) (sparselaw19_awake_ok (hM := gr5) (hst := hst) ) ?_
    clear hst
    rintro _ w ⟨rfl, hst⟩
    refine ⟨_, rfl, ?_⟩
    refine Y wn rfl (ya (v := .bool r5) (et rfl rfl)) ?_
    refine wpList_nil ?_
    refine k4 _ _ ?_
    refine wp_ret ?_
    refine z2 _ _ _ rfl ?_
    obtain rfl := someI hM
    exact hQ _ _ _ (fin1r Try.results5 ⟨rfl, rfl⟩ ⟨rfl, hst⟩)
  · refine condF (et rfl rfl) (decide_eq_false c4) ?_
    refine wp_skip ?_
    refine k2 _ _ ?_
    refine seqQ fun Q5 k5 z5 => ?_
    refine wp_region_lit ?_
    refine Y wn rfl (ym (v := .int .i64 x1) (et rfl rfl)) ?_
    obtain ⟨r6, gr6, hM⟩ := bs hM
    refine Yc wn rfl (yCall FN_11 (a2 (et rfl rfl) rfl)) (sparsekit_Place_ok (hM := gr6) (hst := hst) ) ?_
    clear hst
    rintro _ w ⟨rfl, hst⟩
    refine ⟨_, rfl, ?_⟩
    refine Y wn rfl (ym (v := h3.v) (et rfl rfl)) ?_
    obtain ⟨r7, gr7, hM⟩ := bs hM
    refine Yc wn rfl (yCall FN_12 (a2 (et rfl rfl) (et rfl rfl))) (sparsemake_Graph_ok (hM := gr7) (hst := hst) (q1 := q1)) ?_
    clear hst
    rintro _ w ⟨h8, rfl, hst⟩
    refine ⟨_, rfl, ?_⟩
    refine YB wn rfl (rAl hst ZT_27) ?_
    clear hst
    intro b9 w hst
    refine YT wn rfl (r_stbn (vals' := [h8.v]) (us := [h8.v]) hst ST_27 (et rfl rfl) (et rfl rfl) rfl rfl (one_of rfl) rfl) ?_
    clear hst
    intro w hst
    refine wpList_nil ?_
    refine k5 _ _ ?_
    refine seqQ fun Q6 k6 z6 => ?_
    refine wp_region_lit ?_
    refine Y wn rfl (yLbs (us := [h8.v]) ST_27 (et rfl rfl) hst mhR rfl rfl) ?_
    obtain ⟨r10, gr10, hM⟩ := bs hM
    replace hst := hst.pk 2 [1, 0] rfl
    replace hst := hst.fz
    refine Yc wn rfl (yCall FN_13 (a1 (et rfl rfl))) (etree_Parent_ok (hM := gr10) (hst := hst) (q1 := mhF)) ?_
    clear hst
    rintro _ w ⟨h11, rfl, hst⟩
    refine ⟨_, rfl, ?_⟩
    refine Y wn rfl (ym (v := .tuple #[h11.v, .int .i64 r10.2]) (et rfl rfl)) ?_
    refine Y wn rfl (yx (v := h11.v) (et rfl rfl) rfl) ?_
    refine Y wn rfl (yx (v := .int .i64 r10.2) (et rfl rfl) rfl) ?_
    refine Y wn rfl (ya (v := h11.v) (et rfl rfl)) ?_
    refine Y wn rfl (ya (v := .int .i64 r10.2) (et rfl rfl)) ?_
    refine wpList_nil ?_
    refine k6 _ _ ?_
    refine seqQ fun Q7 k7 z7 => ?_
    refine wp_region_lit ?_
    refine Y wn rfl (yLbs (us := [h8.v]) ST_27 (et rfl rfl) hst (mtR mhR) rfl rfl) ?_
    obtain ⟨r12, gr12, hM⟩ := bs hM
    refine Yc wn rfl (yCall FN_24 (a1 (et rfl rfl))) (sparseref19_Parent_ok (hM := gr12) (hst := hst) (q1 := mhF)) ?_
    clear hst
    rintro _ w ⟨h13, rfl, hst⟩
    refine ⟨_, rfl, ?_⟩
    refine Y wn rfl (ym (v := .tuple #[h13.v, .int .i64 r12.2]) (et rfl rfl)) ?_
    refine Y wn rfl (yx (v := h13.v) (et rfl rfl) rfl) ?_
    refine Y wn rfl (yx (v := .int .i64 r12.2) (et rfl rfl) rfl) ?_
    refine Y wn rfl (ya (v := h13.v) (et rfl rfl)) ?_
    refine Y wn rfl (ya (v := .int .i64 r12.2) (et rfl rfl)) ?_
    refine wpList_nil ?_
    refine k7 _ _ ?_
    refine seqQ fun Q8 k8 z8 => ?_
    refine seqQ fun Q9 k9 z9 => ?_
    refine wp_region_lit ?_
    refine Y wn rfl (ym (v := .int .i64 r10.2) (et rfl rfl)) ?_
    refine Y wn rfl (yneq (et rfl rfl) rfl) ?_
    refine Y wn rfl (ym (v := .bool (!(decide (r10.2 = 0)))) (et rfl rfl)) ?_
    obtain ⟨r15, gr15, hM⟩ := bs hM
    refine joinW 5 (fun f w => f 6 = h11.v ∧ f 8 = h13.v ∧ f 47 = .bool r15 ∧ St w0 (imm (rI .i64) h11.v r10.1 :: imm (rI .i64) h13.v r12.1 :: ros) (rs) w) (fun j1 => ?_) ?_
    · rcases iteS gr15 with ⟨c17, gr15⟩ | ⟨c17, gr15⟩
      · refine Y (wg rfl rfl rfl (nF (decide_eq_true c17))) rfl (ym (v := h11.v) (et rfl rfl)) ?_
        refine Y (wg rfl rfl rfl (nF (decide_eq_true c17))) rfl (ym (v := h13.v) (et rfl rfl)) ?_
        obtain ⟨r18, gr18, gr15⟩ := bs gr15
        replace hst := hst.pk 2 [1, 0] rfl
        replace hst := hst.fz
        replace hst := hst.fz
        refine Yc (wg rfl rfl rfl (nF (decide_eq_true c17))) rfl (yCall FN_23 (a2 (et rfl rfl) (et rfl rfl))) (sparsekit_Ints_ok (hM := gr18) (hst := hst) (q1 := (mtF mhF)) (q2 := mhF)) ?_
        clear hst
        rintro _ w ⟨rfl, hst⟩
        refine ⟨_, rfl, ?_⟩
        refine Y (wg rfl rfl rfl (nF (decide_eq_true c17))) rfl (ynot (et rfl rfl)) ?_
        refine Y wn rfl (ypf (v := .bool (!(r18))) (et rfl rfl) (nF (decide_eq_true c17)) (et rfl rfl)) ?_
        obtain rfl := someI gr15
        exact j1 _ _ ⟨rfl, rfl, rfl, ((hst.pk 1 [] rfl).facts (allC (mtF mhF) (allC mhF (allT (allT (allT allI))))))⟩
      · refine Gn (wx rfl rfl rfl (nT (decide_eq_false c17))) rfl ?_
        refine Gn (wx rfl rfl rfl (nT (decide_eq_false c17))) rfl ?_
        refine Gn (wx rfl rfl rfl (nT (decide_eq_false c17))) rfl ?_
        refine Gn (wx rfl rfl rfl (nT (decide_eq_false c17))) rfl ?_
        refine Y wn rfl (ypt (v := .bool true) (et rfl rfl) (nT (decide_eq_false c17)) rfl) ?_
        obtain rfl := someI gr15
        replace hst := hst.pk 2 [1, 0] rfl
        replace hst := hst.fz
        replace hst := hst.fz
        exact j1 _ _ ⟨rfl, rfl, rfl, ((hst.pk 1 [] rfl).facts (allC (mtF mhF) (allC mhF (allT (allT (allT allI))))))⟩
    clear hst
    rintro f w ⟨e16_6, e16_8, e16_47, hst⟩
    refine wpList_nil ?_
    refine k9 _ _ ?_
    rcases iteS hM with ⟨c19, hM⟩ | ⟨c19, hM⟩
    · refine condT (et rfl e16_47) c19 ?_
      refine seqQ fun Q10 k10 z10 => ?_
      refine wp_region_lit ?_
      refine Y wn rfl (ya (v := .bool false) rfl) ?_
      refine wpList_nil ?_
      refine k10 _ _ ?_
      refine wp_ret ?_
      refine z8 _ _ _ rfl ?_
      obtain rfl := someI hM
      exact hQ _ _ _ (fin1r Try.results5 ⟨rfl, rfl⟩ ⟨rfl, (hst.facts (allT (allT allI)))⟩)
    · refine condF (et rfl e16_47) (bfalse c19) ?_
      refine wp_skip ?_
      refine k8 _ _ ?_
      refine seqQ fun Q11 k11 z11 => ?_
      refine wp_region_lit ?_
      refine Y wn rfl (ym (v := h11.v) (et rfl e16_6)) ?_
      obtain ⟨r20, gr20, hM⟩ := bs hM
      refine Yc wn rfl (yCall FN_17 (a1 (et rfl rfl))) (etree_Postorder_ok (hM := gr20) (hst := hst) (q1 := mhF)) ?_
      clear hst
      rintro _ w ⟨h21, rfl, hst⟩
      refine ⟨_, rfl, ?_⟩
      refine Y wn rfl (ym (v := .tuple #[h21.v, .int .i64 r20.2]) (et rfl rfl)) ?_
      refine Y wn rfl (yx (v := h21.v) (et rfl rfl) rfl) ?_
      refine Y wn rfl (yx (v := .int .i64 r20.2) (et rfl rfl) rfl) ?_
      refine Y wn rfl (ya (v := h21.v) (et rfl rfl)) ?_
      refine Y wn rfl (ya (v := .int .i64 r20.2) (et rfl rfl)) ?_
      refine wpList_nil ?_
      refine k11 _ _ ?_
      refine seqQ fun Q12 k12 z12 => ?_
      refine wp_region_lit ?_
      refine Y wn rfl (ym (v := h13.v) (et rfl e16_8)) ?_
      obtain ⟨r22, gr22, hM⟩ := bs hM
      refine Yc wn rfl (yCall FN_18 (a1 (et rfl rfl))) (sparseref19_Postorder_ok (hM := gr22) (hst := hst) (q1 := (mtF mhF))) ?_
      clear hst
      rintro _ w ⟨h23, rfl, hst⟩
      refine ⟨_, rfl, ?_⟩
      refine Y wn rfl (ym (v := .tuple #[h23.v, .int .i64 r22.2]) (et rfl rfl)) ?_
      refine Y wn rfl (yx (v := h23.v) (et rfl rfl) rfl) ?_
      refine Y wn rfl (yx (v := .int .i64 r22.2) (et rfl rfl) rfl) ?_
      refine Y wn rfl (ya (v := h23.v) (et rfl rfl)) ?_
      refine Y wn rfl (ya (v := .int .i64 r22.2) (et rfl rfl)) ?_
      refine wpList_nil ?_
      refine k12 _ _ ?_
      refine seqQ fun Q13 k13 z13 => ?_
      refine wp_region_lit ?_
      refine Y wn rfl (ym (v := h11.v) (et rfl e16_6)) ?_
      obtain ⟨r24, gr24, hM⟩ := bs hM
      refine Yc wn rfl (yCall FN_19 (a1 (et rfl rfl))) (etree_Depths_ok (hM := gr24) (hst := hst) (q1 := mhF)) ?_
      clear hst
      rintro _ w ⟨h25, rfl, hst⟩
      refine ⟨_, rfl, ?_⟩
      refine Y wn rfl (ym (v := .tuple #[h25.v, .int .i64 r24.2]) (et rfl rfl)) ?_
      refine Y wn rfl (yx (v := h25.v) (et rfl rfl) rfl) ?_
      refine Y wn rfl (yx (v := .int .i64 r24.2) (et rfl rfl) rfl) ?_
      refine Y wn rfl (ya (v := h25.v) (et rfl rfl)) ?_
      refine Y wn rfl (ya (v := .int .i64 r24.2) (et rfl rfl)) ?_
      refine wpList_nil ?_
      refine k13 _ _ ?_
      refine seqQ fun Q14 k14 z14 => ?_
      refine wp_region_lit ?_
      refine Y wn rfl (ym (v := h13.v) (et rfl e16_8)) ?_
      obtain ⟨r26, gr26, hM⟩ := bs hM
      refine Yc wn rfl (yCall FN_20 (a1 (et rfl rfl))) (sparseref19_Depths_ok (hM := gr26) (hst := hst) (q1 := (mtF mhF))) ?_
      clear hst
      rintro _ w ⟨h27, rfl, hst⟩
      refine ⟨_, rfl, ?_⟩
      refine Y wn rfl (ym (v := .tuple #[h27.v, .int .i64 r26.2]) (et rfl rfl)) ?_
      refine Y wn rfl (yx (v := h27.v) (et rfl rfl) rfl) ?_
      refine Y wn rfl (yx (v := .int .i64 r26.2) (et rfl rfl) rfl) ?_
      refine Y wn rfl (ya (v := h27.v) (et rfl rfl)) ?_
      refine Y wn rfl (ya (v := .int .i64 r26.2) (et rfl rfl)) ?_
      refine wpList_nil ?_
      refine k14 _ _ ?_
      refine seqQ fun Q15 k15 z15 => ?_
      refine wp_region_lit ?_
      refine Y wn rfl (ym (v := h11.v) (et rfl e16_6)) ?_
      obtain ⟨r28, gr28, hM⟩ := bs hM
      refine Yc wn rfl (yCall FN_21 (a1 (et rfl rfl))) (etree_Sizes_ok (hM := gr28) (hst := hst) (q1 := mhF)) ?_
      clear hst
      rintro _ w ⟨h29, rfl, hst⟩
      refine ⟨_, rfl, ?_⟩
      refine Y wn rfl (ym (v := .tuple #[h29.v, .int .i64 r28.2]) (et rfl rfl)) ?_
      refine Y wn rfl (yx (v := h29.v) (et rfl rfl) rfl) ?_
      refine Y wn rfl (yx (v := .int .i64 r28.2) (et rfl rfl) rfl) ?_
      refine Y wn rfl (ya (v := h29.v) (et rfl rfl)) ?_
      refine Y wn rfl (ya (v := .int .i64 r28.2) (et rfl rfl)) ?_
      refine wpList_nil ?_
      refine k15 _ _ ?_
      refine seqQ fun Q16 k16 z16 => ?_
      refine wp_region_lit ?_
      refine Y wn rfl (ym (v := h13.v) (et rfl e16_8)) ?_
      obtain ⟨r30, gr30, hM⟩ := bs hM
      refine Yc wn rfl (yCall FN_22 (a1 (et rfl rfl))) (sparseref19_Sizes_ok (hM := gr30) (hst := hst) (q1 := (mtF mhF))) ?_
      clear hst
      rintro _ w ⟨h31, rfl, hst⟩
      refine ⟨_, rfl, ?_⟩
      refine Y wn rfl (ym (v := .tuple #[h31.v, .int .i64 r30.2]) (et rfl rfl)) ?_
      refine Y wn rfl (yx (v := h31.v) (et rfl rfl) rfl) ?_
      refine Y wn rfl (yx (v := .int .i64 r30.2) (et rfl rfl) rfl) ?_
      refine Y wn rfl (ya (v := h31.v) (et rfl rfl)) ?_
      refine Y wn rfl (ya (v := .int .i64 r30.2) (et rfl rfl)) ?_
      refine wpList_nil ?_
      refine k16 _ _ ?_
      refine seqQ fun Q17 k17 z17 => ?_
      refine wp_region_lit ?_
      refine Y wn rfl (ym (v := .int .i64 r20.2) (et rfl rfl)) ?_
      refine Y wn rfl (yeql (et rfl rfl) rfl) ?_
      refine Y wn rfl (ym (v := .bool (decide (r20.2 = 0))) (et rfl rfl)) ?_
      refine joinW 3 (fun f w => f 10 = h21.v ∧ f 12 = h23.v ∧ f 14 = h25.v ∧ f 16 = h27.v ∧ f 18 = h29.v ∧ f 19 = .int .i64 r28.2 ∧ f 20 = h31.v ∧ f 83 = .bool ((decide (r20.2 = 0)) && (decide (r24.2 = 0))) ∧ St w0 (ros) (row 3 (rI .i64) h21.v r20.1 :: row 3 (rI .i64) h23.v r22.1 :: row 3 (rI .i64) h25.v r24.1 :: row 3 (rI .i64) h27.v r26.1 :: row 3 (rI .i64) h29.v r28.1 :: row 3 (rI .i64) h31.v r30.1 :: rs) w) (fun j2 => ?_) ?_
      · rcases Bool.eq_false_or_eq_true (decide (r20.2 = 0)) with c33 | c33
        · refine Y (wg rfl rfl rfl c33) rfl (ym (v := .int .i64 r24.2) (et rfl rfl)) ?_
          refine Y (wg rfl rfl rfl c33) rfl (yeql (et rfl rfl) rfl) ?_
          refine Y wn rfl (ypt (v := .bool (decide (r24.2 = 0))) (et rfl rfl) c33 (et rfl rfl)) ?_
          exact j2 _ _ ⟨rfl, rfl, rfl, rfl, rfl, rfl, rfl, (congrArg Value.bool (andT c33)), ((hst.pk 6 [5, 4, 3, 2, 1, 0] rfl).facts (allT (allT allI)))⟩
        · refine Gn (wx rfl rfl rfl c33) rfl ?_
          refine Gn (wx rfl rfl rfl c33) rfl ?_
          refine Y wn rfl (ypf (v := .bool false) (et rfl rfl) c33 rfl) ?_
          exact j2 _ _ ⟨rfl, rfl, rfl, rfl, rfl, rfl, rfl, (congrArg Value.bool (andF c33)), ((hst.pk 6 [5, 4, 3, 2, 1, 0] rfl).facts (allT (allT allI)))⟩
      clear hst
      rintro f w ⟨e32_10, e32_12, e32_14, e32_16, e32_18, e32_19, e32_20, e32_83, hst⟩
      refine Y wn rfl (ym (v := .bool ((decide (r20.2 = 0)) && (decide (r24.2 = 0)))) (et rfl e32_83)) ?_
      refine joinW 3 (fun f w => f 10 = h21.v ∧ f 12 = h23.v ∧ f 14 = h25.v ∧ f 16 = h27.v ∧ f 18 = h29.v ∧ f 20 = h31.v ∧ f 87 = .bool (((decide (r20.2 = 0)) && (decide (r24.2 = 0))) && (decide (r28.2 = 0))) ∧ St w0 (ros) (row 3 (rI .i64) h21.v r20.1 :: row 3 (rI .i64) h23.v r22.1 :: row 3 (rI .i64) h25.v r24.1 :: row 3 (rI .i64) h27.v r26.1 :: row 3 (rI .i64) h29.v r28.1 :: row 3 (rI .i64) h31.v r30.1 :: rs) w) (fun j3 => ?_) ?_
      · rcases Bool.eq_false_or_eq_true (((decide (r20.2 = 0)) && (decide (r24.2 = 0)))) with c35 | c35
        · refine Y (wg rfl rfl rfl c35) rfl (ym (v := .int .i64 r28.2) (et rfl e32_19)) ?_
          refine Y (wg rfl rfl rfl c35) rfl (yeql (et rfl rfl) rfl) ?_
          refine Y wn rfl (ypt (v := .bool (decide (r28.2 = 0))) (et rfl rfl) c35 (et rfl rfl)) ?_
          exact j3 _ _ ⟨e32_10, e32_12, e32_14, e32_16, e32_18, e32_20, (congrArg Value.bool (andT c35)), hst⟩
        · refine Gn (wx rfl rfl rfl c35) rfl ?_
          refine Gn (wx rfl rfl rfl c35) rfl ?_
          refine Y wn rfl (ypf (v := .bool false) (et rfl rfl) c35 rfl) ?_
          exact j3 _ _ ⟨e32_10, e32_12, e32_14, e32_16, e32_18, e32_20, (congrArg Value.bool (andF c35)), hst⟩
      clear hst
      rintro f w ⟨e34_10, e34_12, e34_14, e34_16, e34_18, e34_20, e34_87, hst⟩
      refine Y wn rfl (ym (v := .bool (((decide (r20.2 = 0)) && (decide (r24.2 = 0))) && (decide (r28.2 = 0)))) (et rfl e34_87)) ?_
      obtain ⟨r37, gr37, hM⟩ := bs hM
      refine joinW 4 (fun f w => f 14 = h25.v ∧ f 16 = h27.v ∧ f 18 = h29.v ∧ f 20 = h31.v ∧ f 92 = .bool r37 ∧ St w0 (ros) (row 3 (rI .i64) h25.v r24.1 :: row 3 (rI .i64) h27.v r26.1 :: row 3 (rI .i64) h29.v r28.1 :: row 3 (rI .i64) h31.v r30.1 :: rs) w) (fun j4 => ?_) ?_
      · rcases iteS gr37 with ⟨c39, gr37⟩ | ⟨c39, gr37⟩
        · refine Y (wg rfl rfl rfl c39) rfl (ym (v := h21.v) (et rfl e34_10)) ?_
          refine Y (wg rfl rfl rfl c39) rfl (ym (v := h23.v) (et rfl e34_12)) ?_
          obtain ⟨r40, gr40, gr37⟩ := bs gr37
          replace hst := hst.fz
          replace hst := hst.fz
          refine Yc (wg rfl rfl rfl c39) rfl (yCall FN_23 (a2 (et rfl rfl) (et rfl rfl))) (sparsekit_Ints_ok (hM := gr40) (hst := hst) (q1 := (mtF mhF)) (q2 := mhF)) ?_
          clear hst
          rintro _ w ⟨rfl, hst⟩
          refine ⟨_, rfl, ?_⟩
          refine Y wn rfl (ypt (v := .bool r40) (et rfl rfl) c39 (et rfl rfl)) ?_
          obtain rfl := someI gr37
          exact j4 _ _ ⟨e34_14, e34_16, e34_18, e34_20, rfl, (hst.facts (allT (allT allI)))⟩
        · refine Gn (wx rfl rfl rfl (bfalse c39)) rfl ?_
          refine Gn (wx rfl rfl rfl (bfalse c39)) rfl ?_
          refine Gn (wx rfl rfl rfl (bfalse c39)) rfl ?_
          refine Y wn rfl (ypf (v := .bool false) (et rfl rfl) (bfalse c39) rfl) ?_
          obtain rfl := someI gr37
          exact j4 _ _ ⟨e34_14, e34_16, e34_18, e34_20, rfl, (hst.pk 6 [2, 2, 2, 2] rfl)⟩
      clear hst
      rintro f w ⟨e38_14, e38_16, e38_18, e38_20, e38_92, hst⟩
      refine Y wn rfl (ym (v := .bool r37) (et rfl e38_92)) ?_
      obtain ⟨r42, gr42, hM⟩ := bs hM
      refine joinW 4 (fun f w => f 18 = h29.v ∧ f 20 = h31.v ∧ f 97 = .bool r42 ∧ St w0 (ros) (row 3 (rI .i64) h29.v r28.1 :: row 3 (rI .i64) h31.v r30.1 :: rs) w) (fun j5 => ?_) ?_
      · rcases iteS gr42 with ⟨c44, gr42⟩ | ⟨c44, gr42⟩
        · refine Y (wg rfl rfl rfl c44) rfl (ym (v := h25.v) (et rfl e38_14)) ?_
          refine Y (wg rfl rfl rfl c44) rfl (ym (v := h27.v) (et rfl e38_16)) ?_
          obtain ⟨r45, gr45, gr42⟩ := bs gr42
          replace hst := hst.fz
          replace hst := hst.fz
          refine Yc (wg rfl rfl rfl c44) rfl (yCall FN_23 (a2 (et rfl rfl) (et rfl rfl))) (sparsekit_Ints_ok (hM := gr45) (hst := hst) (q1 := (mtF mhF)) (q2 := mhF)) ?_
          clear hst
          rintro _ w ⟨rfl, hst⟩
          refine ⟨_, rfl, ?_⟩
          refine Y wn rfl (ypt (v := .bool r45) (et rfl rfl) c44 (et rfl rfl)) ?_
          obtain rfl := someI gr42
          exact j5 _ _ ⟨e38_18, e38_20, rfl, (hst.facts (allT (allT allI)))⟩
        · refine Gn (wx rfl rfl rfl (bfalse c44)) rfl ?_
          refine Gn (wx rfl rfl rfl (bfalse c44)) rfl ?_
          refine Gn (wx rfl rfl rfl (bfalse c44)) rfl ?_
          refine Y wn rfl (ypf (v := .bool false) (et rfl rfl) (bfalse c44) rfl) ?_
          obtain rfl := someI gr42
          exact j5 _ _ ⟨e38_18, e38_20, rfl, (hst.pk 4 [2, 2] rfl)⟩
      clear hst
      rintro f w ⟨e43_18, e43_20, e43_97, hst⟩
      refine Y wn rfl (ym (v := .bool r42) (et rfl e43_97)) ?_
      obtain ⟨r47, gr47, hM⟩ := bs hM
      refine joinW 4 (fun f w => f 102 = .bool r47 ∧ St w0 (ros) (rs) w) (fun j6 => ?_) ?_
      · rcases iteS gr47 with ⟨c49, gr47⟩ | ⟨c49, gr47⟩
        · refine Y (wg rfl rfl rfl c49) rfl (ym (v := h29.v) (et rfl e43_18)) ?_
          refine Y (wg rfl rfl rfl c49) rfl (ym (v := h31.v) (et rfl e43_20)) ?_
          obtain ⟨r50, gr50, gr47⟩ := bs gr47
          replace hst := hst.fz
          replace hst := hst.fz
          refine Yc (wg rfl rfl rfl c49) rfl (yCall FN_23 (a2 (et rfl rfl) (et rfl rfl))) (sparsekit_Ints_ok (hM := gr50) (hst := hst) (q1 := (mtF mhF)) (q2 := mhF)) ?_
          clear hst
          rintro _ w ⟨rfl, hst⟩
          refine ⟨_, rfl, ?_⟩
          refine Y wn rfl (ypt (v := .bool r50) (et rfl rfl) c49 (et rfl rfl)) ?_
          obtain rfl := someI gr47
          exact j6 _ _ ⟨rfl, (hst.facts (allT (allT allI)))⟩
        · refine Gn (wx rfl rfl rfl (bfalse c49)) rfl ?_
          refine Gn (wx rfl rfl rfl (bfalse c49)) rfl ?_
          refine Gn (wx rfl rfl rfl (bfalse c49)) rfl ?_
          refine Y wn rfl (ypf (v := .bool false) (et rfl rfl) (bfalse c49) rfl) ?_
          obtain rfl := someI gr47
          exact j6 _ _ ⟨rfl, (hst.pk 2 [] rfl)⟩
      clear hst
      rintro f w ⟨e48_102, hst⟩
      refine Y wn rfl (ym (v := .bool r47) (et rfl e48_102)) ?_
      obtain ⟨r52, gr52, hM⟩ := bs hM
      refine joinW 2 (fun f w => f 105 = .bool r52 ∧ St w0 (ros) (rs) w) (fun j7 => ?_) ?_
      · rcases iteS gr52 with ⟨c54, gr52⟩ | ⟨c54, gr52⟩
        · obtain ⟨r55, gr55, gr52⟩ := bs gr52
          refine Yc (wg rfl rfl rfl c54) rfl (yCall FN_10 a0) (sparselaw19_awake_ok (hM := gr55) (hst := hst) ) ?_
          clear hst
          rintro _ w ⟨rfl, hst⟩
          refine ⟨_, rfl, ?_⟩
          refine Y wn rfl (ypt (v := .bool r55) (et rfl rfl) c54 (et rfl rfl)) ?_
          obtain rfl := someI gr52
          exact j7 _ _ ⟨rfl, hst⟩
        · refine Gn (wx rfl rfl rfl (bfalse c54)) rfl ?_
          refine Y wn rfl (ypf (v := .bool false) (et rfl rfl) (bfalse c54) rfl) ?_
          obtain rfl := someI gr52
          exact j7 _ _ ⟨rfl, hst⟩
      clear hst
      rintro f w ⟨e53_105, hst⟩
      refine Y wn rfl (ya (v := .bool r52) (et rfl e53_105)) ?_
      refine wpList_nil ?_
      refine k17 _ _ ?_
      refine wp_ret ?_
      obtain rfl := someI hM
      exact hQ _ _ _ (fin1r Try.results5 ⟨rfl, rfl⟩ ⟨rfl, hst⟩)

theorem math_bits_Len64_ok {w0 : World} {ros : List Fact} {rs : List Res} {w : World} {x1 : Int} {out : Int} (hM : math_bits_Len64 x1 = some out) (hst : St w0 ros (rs) w) :
    Calls Try.prog 98 #[.int .u64 x1] w (fun e w => e = .returned (.int .i64 out) ∧ St w0 (ros) (rs) w) := by
  refine enterQ Try.func98 rfl Try.ntmps98 rfl fun Q hQ => ?_
  refine seqQ fun Q1 k1 z1 => ?_
  refine wp_region_lit ?_
  refine Y wn rfl (ya (v := .int .i64 0) rfl) ?_
  refine wpList_nil ?_
  refine k1 _ _ ?_
  refine seqQ fun Q2 k2 z2 => ?_
  refine seqQ fun Q3 k3 z3 => ?_
  refine wp_region_lit ?_
  refine Y wn rfl (ym (v := .int .u64 x1) (et rfl rfl)) ?_
  refine Y wn rfl (ygeq (et rfl rfl) rfl) ?_
  refine wpList_nil ?_
  refine k3 _ _ ?_
  have j1 : ∀ (x2 : Int) (x3 : Int) (f : Nat → Value) (w : World), f 0 = .int .u64 x2 → f 2 = .int .i64 x3 → St w0 (ros) (rs) w → math_bits_Len64_j1 x2 x3 = some out → Q2 .normal (fr 25 f) w := by
    intro x2 x3 f w ej1_0 ej1_2 hst hM
    refine k2 _ _ ?_
    refine seqQ fun Q5 k5 z5 => ?_
    refine seqQ fun Q6 k6 z6 => ?_
    refine wp_region_lit ?_
    refine Y wn rfl (ym (v := .int .u64 x2) (et rfl ej1_0)) ?_
    refine Y wn rfl (ygeq (et rfl rfl) rfl) ?_
    refine wpList_nil ?_
    refine k6 _ _ ?_
    have j2 : ∀ (x4 : Int) (x5 : Int) (f : Nat → Value) (w : World), f 0 = .int .u64 x4 → f 2 = .int .i64 x5 → St w0 (ros) (rs) w → math_bits_Len64_j2 x4 x5 = some out → Q5 .normal (fr 25 f) w := by
      intro x4 x5 f w ej2_0 ej2_2 hst hM
      refine k5 _ _ ?_
      refine seqQ fun Q8 k8 z8 => ?_
      refine seqQ fun Q9 k9 z9 => ?_
      refine wp_region_lit ?_
      refine Y wn rfl (ym (v := .int .u64 x4) (et rfl ej2_0)) ?_
      refine Y wn rfl (ygeq (et rfl rfl) rfl) ?_
      refine wpList_nil ?_
      refine k9 _ _ ?_
      have j3 : ∀ (x6 : Int) (x7 : Int) (f : Nat → Value) (w : World), f 0 = .int .u64 x6 → f 2 = .int .i64 x7 → St w0 (ros) (rs) w → math_bits_Len64_j3 x6 x7 = some out → Q8 .normal (fr 25 f) w := by
        intro x6 x7 f w ej3_0 ej3_2 hst hM
        refine k8 _ _ ?_
        refine seqQ fun Q11 k11 z11 => ?_
        refine wp_region_lit ?_
        refine Y wn rfl (ym (v := .int .i64 x7) (et rfl ej3_2)) ?_
        refine Y wn rfl (ym (v := .int .u64 x6) (et rfl ej3_0)) ?_
        refine Y wn rfl (ycv (k' := .u8) (by kernel_rfl) (by kernel_rfl) (et rfl rfl)) ?_
        obtain ⟨x8, gx8, hM⟩ := bs hM
        refine Y wn rfl (yixs (by kernel_rfl) rfl (et rfl rfl) (by kernel_rfl) gx8) ?_
        refine Y wn rfl (ycv (k' := .i64) (by kernel_rfl) (by kernel_rfl) (et rfl rfl)) ?_
        refine Y wn rfl (yadd (et rfl rfl) (et rfl rfl)) ?_
        refine Y wn rfl (ya (v := .int .i64 (wa .i64 x7 (wc .i64 x8))) (et rfl rfl)) ?_
        refine wpList_nil ?_
        refine k11 _ _ ?_
        refine wp_ret ?_
        obtain rfl := someI hM
        exact hQ _ _ _ (fin1r Try.results98 ⟨rfl, rfl⟩ ⟨rfl, hst⟩)
      rcases iteS hM with ⟨c9, hM⟩ | ⟨c9, hM⟩
      · refine condT (et rfl rfl) (decide_eq_true c9) ?_
        refine seqQ fun Q12 k12 z12 => ?_
        refine wp_region_lit ?_
        refine Y wn rfl (ym (v := .int .u64 x4) (et rfl ej2_0)) ?_
        refine Y wn rfl (yshrc (et rfl rfl) rfl) ?_
        refine Y wn rfl (ya (v := .int .u64 (wsrc .u64 x4 8)) (et rfl rfl)) ?_
        refine wpList_nil ?_
        refine k12 _ _ ?_
        refine wp_region_lit ?_
        refine Y wn rfl (ym (v := .int .i64 x5) (et rfl ej2_2)) ?_
        refine Y wn rfl (yadd (et rfl rfl) rfl) ?_
        refine Y wn rfl (ya (v := .int .i64 (wa .i64 x5 8)) (et rfl rfl)) ?_
        refine wpList_nil ?_
        exact j3 _ _ _ _ rfl rfl hst hM
      · refine condF (et rfl rfl) (decide_eq_false c9) ?_
        refine wp_skip ?_
        exact j3 _ _ _ _ ej2_0 ej2_2 hst hM
    rcases iteS hM with ⟨c10, hM⟩ | ⟨c10, hM⟩
    · refine condT (et rfl rfl) (decide_eq_true c10) ?_
      refine seqQ fun Q13 k13 z13 => ?_
      refine wp_region_lit ?_
      refine Y wn rfl (ym (v := .int .u64 x2) (et rfl ej1_0)) ?_
      refine Y wn rfl (yshrc (et rfl rfl) rfl) ?_
      refine Y wn rfl (ya (v := .int .u64 (wsrc .u64 x2 16)) (et rfl rfl)) ?_
      refine wpList_nil ?_
      refine k13 _ _ ?_
      refine wp_region_lit ?_
      refine Y wn rfl (ym (v := .int .i64 x3) (et rfl ej1_2)) ?_
      refine Y wn rfl (yadd (et rfl rfl) rfl) ?_
      refine Y wn rfl (ya (v := .int .i64 (wa .i64 x3 16)) (et rfl rfl)) ?_
      refine wpList_nil ?_
      exact j2 _ _ _ _ rfl rfl hst hM
    · refine condF (et rfl rfl) (decide_eq_false c10) ?_
      refine wp_skip ?_
      exact j2 _ _ _ _ ej1_0 ej1_2 hst hM
  rcases iteS hM with ⟨c11, hM⟩ | ⟨c11, hM⟩
  · refine condT (et rfl rfl) (decide_eq_true c11) ?_
    refine seqQ fun Q14 k14 z14 => ?_
    refine wp_region_lit ?_
    refine Y wn rfl (ym (v := .int .u64 x1) (et rfl rfl)) ?_
    refine Y wn rfl (yshrc (et rfl rfl) rfl) ?_
    refine Y wn rfl (ya (v := .int .u64 (wsrc .u64 x1 32)) (et rfl rfl)) ?_
    refine wpList_nil ?_
    refine k14 _ _ ?_
    refine wp_region_lit ?_
    refine Y wn rfl (ya (v := .int .i64 32) rfl) ?_
    refine wpList_nil ?_
    exact j1 _ _ _ _ rfl rfl hst hM
  · refine condF (et rfl rfl) (decide_eq_false c11) ?_
    refine wp_skip ?_
    exact j1 _ _ _ _ rfl rfl hst hM

theorem math_bits_Len_ok {w0 : World} {ros : List Fact} {rs : List Res} {w : World} {x1 : Int} {out : Int} (hM : math_bits_Len x1 = some out) (hst : St w0 ros (rs) w) :
    Calls Try.prog 75 #[.int .u64 x1] w (fun e w => e = .returned (.int .i64 out) ∧ St w0 (ros) (rs) w) := by
  refine enterQ Try.func75 rfl Try.ntmps75 rfl fun Q hQ => ?_
  refine seqQ fun Q1 k1 z1 => ?_
  refine wp_region_lit ?_
  refine Y wn rfl (ya (v := .int .i64 0) rfl) ?_
  refine wpList_nil ?_
  refine k1 _ _ ?_
  refine seqQ fun Q2 k2 z2 => ?_
  refine condF rfl rfl ?_
  refine wp_skip ?_
  refine k2 _ _ ?_
  refine seqQ fun Q3 k3 z3 => ?_
  refine wp_region_lit ?_
  refine Y wn rfl (ym (v := .int .u64 x1) (et rfl rfl)) ?_
  obtain ⟨r2, gr2, hM⟩ := bs hM
  refine Yc wn rfl (yCall FN_98 (a1 (et rfl rfl))) (math_bits_Len64_ok (hM := gr2) (hst := hst) ) ?_
  clear hst
  rintro _ w ⟨rfl, hst⟩
  refine ⟨_, rfl, ?_⟩
  refine Y wn rfl (ya (v := .int .i64 r2) (et rfl rfl)) ?_
  refine wpList_nil ?_
  refine k3 _ _ ?_
  refine wp_ret ?_
  obtain rfl := someI hM
  exact hQ _ _ _ (fin1r Try.results75 ⟨rfl, rfl⟩ ⟨rfl, hst⟩)

theorem slices_insertionSortOrdered_int_ok {w0 : World} {ros : List Fact} {rs : List Res} {w : World} {x1 : List Int} {x3 : Int} {x4 : Int} {h2 : Hdr} {out : (List Int)} (hM : slices_insertionSortOrdered_int x1 x3 x4 = some out) (hst : St w0 ros (row 3 (rI .i64) h2.v x1 :: rs) w) :
    Calls Try.prog 88 #[h2.v, .int .i64 x3, .int .i64 x4] w (fun e w => e = .returned (.tuple #[]) ∧ St w0 (ros) (row 3 (rI .i64) h2.v out :: rs) w) := by
  refine enterQ Try.func88 rfl Try.ntmps88 rfl fun Q hQ => ?_
  refine seqQ fun Q1 k1 z1 => ?_
  refine wp_region_lit ?_
  refine Y wn rfl (ym (v := .int .i64 x3) (et rfl rfl)) ?_
  refine Y wn rfl (yadd (et rfl rfl) rfl) ?_
  refine Y wn rfl (ya (v := .int .i64 (wa .i64 x3 1)) (et rfl rfl)) ?_
  refine wpList_nil ?_
  refine k1 _ _ ?_
  refine blockQ fun Q2 q2 => ?_
  obtain ⟨o21, go21, hM⟩ := bs hM
  have je21_0 : ∀ (x87 : List Int) (f : Nat → Value) (w : World), St w0 (ros) (row 3 (rI .i64) h2.v x87 :: rs) w → x87 = o21 → Q2 (.exit 0) (fr 49 f) w := by
    intro x87 f w hst ho
    subst ho
    refine q2 _ _ _ ?_
    obtain rfl := someI hM
    exact hQ _ _ _ (fin0n Try.results88 ⟨rfl, hst⟩)
  refine loopQ (fun s a w => ∃ (x44 : List Int) (x45 : Int) (f : Nat → Value), (x44, x45) = s ∧ a = fr 49 f ∧ f 0 = h2.v ∧ f 1 = .int .i64 x3 ∧ f 2 = .int .i64 x4 ∧ f 6 = .int .i64 x45 ∧ St w0 (ros) (row 3 (rI .i64) h2.v x44 :: rs) w) go21 ⟨_, _, _, rfl, rfl, rfl, rfl, rfl, rfl, hst⟩ ?_
  clear hst
  rintro _ _ w r21_ ⟨x44, x45, f, rfl, rfl, e21_0, e21_1, e21_2, e21_6, hst⟩ hM21 ho21 Q100021 n21 zz21
  refine seqQ fun Q39 k39 z39 => ?_
  refine seqQ fun Q40 k40 z40 => ?_
  refine wp_region_lit ?_
  refine Y wn rfl (ym (v := .int .i64 x45) (et rfl e21_6)) ?_
  refine Y wn rfl (ym (v := .int .i64 x4) (et rfl e21_2)) ?_
  refine Y wn rfl (ylss (et rfl rfl) (et rfl rfl)) ?_
  refine wpList_nil ?_
  refine k40 _ _ ?_
  rcases iteS hM21 with ⟨c88, hM21⟩ | ⟨c88, hM21⟩
  · refine condT (et rfl rfl) (decide_eq_true c88) ?_
    refine wp_skip ?_
    refine k39 _ _ ?_
    refine seqQ fun Q41 k41 z41 => ?_
    refine blockQ fun Q42 q42 => ?_
    refine seqQ fun Q43 k43 z43 => ?_
    refine wp_region_lit ?_
    refine Y wn rfl (ym (v := .int .i64 x45) (et rfl e21_6)) ?_
    refine Y wn rfl (ya (v := .int .i64 x45) (et rfl rfl)) ?_
    refine wpList_nil ?_
    refine k43 _ _ ?_
    refine blockQ fun Q44 q44 => ?_
    obtain ⟨o28, go28, hM21⟩ := bs hM21
    have je28_0 : ∀ (x115 : List Int) (f : Nat → Value) (w : World), f 0 = h2.v → f 1 = .int .i64 x3 → f 2 = .int .i64 x4 → f 6 = .int .i64 x45 → St w0 (ros) (row 3 (rI .i64) h2.v x115 :: rs) w → x115 = o28 → Q44 (.exit 2) (fr 49 f) w := by
      intro x115 f w eje28_0_0 eje28_0_1 eje28_0_2 eje28_0_6 hst ho
      subst ho
      refine q44 _ _ _ ?_
      refine q42 _ _ _ ?_
      refine k41 _ _ ?_
      refine wp_region_lit ?_
      refine Y wn rfl (ym (v := .int .i64 x45) (et rfl eje28_0_6)) ?_
      refine Y wn rfl (yadd (et rfl rfl) rfl) ?_
      refine Y wn rfl (ya (v := .int .i64 (wa .i64 x45 1)) (et rfl rfl)) ?_
      refine wpList_nil ?_
      obtain rfl := someI hM21
      exact n21 _ _ _ rfl ⟨_, _, _, rfl, rfl, eje28_0_0, eje28_0_1, eje28_0_2, rfl, hst⟩
    refine loopQ (fun s a w => ∃ (x100 : List Int) (x101 : Int) (f : Nat → Value), (x100, x101) = s ∧ a = fr 49 f ∧ f 0 = h2.v ∧ f 1 = .int .i64 x3 ∧ f 2 = .int .i64 x4 ∧ f 6 = .int .i64 x45 ∧ f 7 = .int .i64 x101 ∧ St w0 (ros) (row 3 (rI .i64) h2.v x100 :: rs) w) go28 ⟨_, _, _, rfl, rfl, e21_0, e21_1, e21_2, e21_6, rfl, hst⟩ ?_
    clear hst
    rintro _ _ w r28_ ⟨x100, x101, f, rfl, rfl, e28_0, e28_1, e28_2, e28_6, e28_7, hst⟩ hM28 ho28 Q100028 n28 zz28
    refine seqQ fun Q53 k53 z53 => ?_
    refine seqQ fun Q54 k54 z54 => ?_
    obtain ⟨r116, gr116, hM28⟩ := bs hM28
    refine joinN (n := 49) (fun f w => f 0 = h2.v ∧ f 1 = .int .i64 x3 ∧ f 2 = .int .i64 x4 ∧ f 6 = .int .i64 x45 ∧ f 7 = .int .i64 x101 ∧ f 30 = .bool r116 ∧ St w0 (ros) (row 3 (rI .i64) h2.v x100 :: rs) w) (fun j29 => ?_) ?_
    · rcases iteS gr116 with ⟨c118, gr116⟩ | ⟨c118, gr116⟩
      · obtain ⟨x119, gx119, gr116⟩ := bs gr116
        obtain ⟨x120, gx120, gr116⟩ := bs gr116
        obtain ⟨r121, gr121, gr116⟩ := bs gr116
        have hr30 := someI gr116
        refine wp_drawR [0, 0, 3, 7, 15, 15, 63, 127, 15, 15, 527, 1807, 3855, 8191, 16383] [13] 1 folM (by kernel_rfl) (by kernel_rfl) (by kernel_rfl) ?_
        replace hst := hst.drew
        refine DRn (l1 := [0, 1, 2, 3, 4, 5, 6, 7, 8, 9, 10, 11, 12]) (l2 := []) (lc := [13]) (by kernel_rfl) (by kernel_rfl) (by kernel_rfl) ?_
        refine Ry rfl rfl wn (ym (v := .int .i64 x101) (et rfl e28_7)) ?_
        refine Ry rfl rfl wn (ym (v := .int .i64 x3) (et rfl e28_1)) ?_
        refine Ry rfl rfl wn (ygtr (et rfl rfl) (et rfl rfl)) ?_
        refine Ry rfl rfl wn (ym (v := .bool (decide (x3 < x101))) (et rfl rfl)) ?_
        refine Ry rfl rfl (wg rfl rfl rfl (decide_eq_true c118)) (ym (v := h2.v) (et rfl e28_0)) ?_
        refine Ry rfl rfl (wg rfl rfl rfl (decide_eq_true c118)) (ym (v := .int .i64 x101) (et rfl e28_7)) ?_
        refine Ry rfl rfl (wg rfl rfl rfl (decide_eq_true c118)) (yIa SL_22 (et rfl rfl) (et rfl rfl) hst (rdO mhR) gx119) ?_
        refine Ry rfl rfl (wg rfl rfl rfl (decide_eq_true c118)) (yI O_3 (et rfl rfl) hst (rdO mhR) gx119) ?_
        refine Ry rfl rfl (wg rfl rfl rfl (decide_eq_true c118)) (ym (v := h2.v) (et rfl e28_0)) ?_
        refine Ry rfl rfl (wg rfl rfl rfl (decide_eq_true c118)) (ym (v := .int .i64 x101) (et rfl e28_7)) ?_
        refine Ry rfl rfl (wg rfl rfl rfl (decide_eq_true c118)) (ysub (et rfl rfl) rfl) ?_
        refine Ry rfl rfl (wg rfl rfl rfl (decide_eq_true c118)) (yIa SL_22 (et rfl rfl) (et rfl rfl) hst (rdO mhR) gx120) ?_
        refine Ry rfl rfl (wg rfl rfl rfl (decide_eq_true c118)) (yI O_3 (et rfl rfl) hst (rdO mhR) gx120) ?_
        refine Rn QSn ?_
        refine Lc rfl ?_ LAn
        refine Lk (wg rfl rfl rfl (decide_eq_true c118)) (yCall FN_94 (a2 (et rfl rfl) (et rfl rfl))) (cmp_Less_int_ok (hM := gr121) (hst := hst) ) ?_
        clear hst
        rintro _ w ⟨rfl, hst⟩
        refine ⟨_, rfl, ?_⟩
        refine DRz (l1 := [14]) (l2 := []) (by kernel_rfl) (by kernel_rfl) ?_
        refine Ry rfl rfl wn (ypt (v := .bool r116) (et rfl rfl) (decide_eq_true c118) (eqv hr30 (et rfl rfl))) ?_
        refine Rn QSn ?_
        exact j29 _ _ ⟨e28_0, e28_1, e28_2, e28_6, e28_7, rfl, hst⟩
      · have hr31 := someI gr116
        refine wp_drawR [0, 0, 3, 7, 15, 15, 63, 127, 15, 15, 527, 1807, 3855, 8191, 16383] [13] 1 folM (by kernel_rfl) (by kernel_rfl) (by kernel_rfl) ?_
        replace hst := hst.drew
        refine DRn (l1 := [0, 1, 2, 3, 4, 5, 6, 7, 8, 9, 10, 11, 12]) (l2 := []) (lc := [13]) (by kernel_rfl) (by kernel_rfl) (by kernel_rfl) ?_
        refine Ry rfl rfl wn (ym (v := .int .i64 x101) (et rfl e28_7)) ?_
        refine Ry rfl rfl wn (ym (v := .int .i64 x3) (et rfl e28_1)) ?_
        refine Ry rfl rfl wn (ygtr (et rfl rfl) (et rfl rfl)) ?_
        refine Ry rfl rfl wn (ym (v := .bool (decide (x3 < x101))) (et rfl rfl)) ?_
        refine Rx rfl rfl (wx rfl rfl rfl (decide_eq_false c118)) ?_
        refine Rx rfl rfl (wx rfl rfl rfl (decide_eq_false c118)) ?_
        refine Rx rfl rfl (wx rfl rfl rfl (decide_eq_false c118)) ?_
        refine Rx rfl rfl (wx rfl rfl rfl (decide_eq_false c118)) ?_
        refine Rx rfl rfl (wx rfl rfl rfl (decide_eq_false c118)) ?_
        refine Rx rfl rfl (wx rfl rfl rfl (decide_eq_false c118)) ?_
        refine Rx rfl rfl (wx rfl rfl rfl (decide_eq_false c118)) ?_
        refine Rx rfl rfl (wx rfl rfl rfl (decide_eq_false c118)) ?_
        refine Rx rfl rfl (wx rfl rfl rfl (decide_eq_false c118)) ?_
        refine Rn QSn ?_
        refine Lc rfl ?_ LAn
        refine Lx (wx rfl rfl rfl (decide_eq_false c118)) ?_
        refine DRz (l1 := [14]) (l2 := []) (by kernel_rfl) (by kernel_rfl) ?_
        refine Ry rfl rfl wn (ypf (v := .bool r116) (et rfl rfl) (decide_eq_false c118) (eqv hr31 rfl)) ?_
        refine Rn QSn ?_
        exact j29 _ _ ⟨e28_0, e28_1, e28_2, e28_6, e28_7, rfl, hst⟩
    clear hst
    rintro f w ⟨e117_0, e117_1, e117_2, e117_6, e117_7, e117_30, hst⟩
    refine k54 _ _ ?_
    rcases iteS hM28 with ⟨c122, hM28⟩ | ⟨c122, hM28⟩
    · refine condT (et rfl e117_30) c122 ?_
      refine wp_skip ?_
      refine k53 _ _ ?_
      refine seqQ fun Q55 k55 z55 => ?_
      refine blockQ fun Q56 q56 => ?_
      obtain ⟨x123, gx123, hM28⟩ := bs hM28
      obtain ⟨x124, gx124, hM28⟩ := bs hM28
      obtain ⟨x125, gx125, hM28⟩ := bs hM28
      obtain ⟨x126, gx126, hM28⟩ := bs hM28
      refine wp_drawR [0, 0, 0, 0, 8, 0, 0, 64, 224, 480, 0, 0, 3072, 7168, 16355, 32739, 65535, 131071] [15, 17] 2 folM (by kernel_rfl) (by kernel_rfl) (by kernel_rfl) ?_
      replace hst := hst.drew
      refine DRn (l1 := [0, 1, 2, 3, 4, 5, 6, 7, 8, 9, 10, 11, 12, 13, 14]) (l2 := []) (lc := [15]) (by kernel_rfl) (by kernel_rfl) (by kernel_rfl) ?_
      refine Ry rfl rfl wn (ym (v := h2.v) (et rfl e117_0)) ?_
      refine Ry rfl rfl wn (ym (v := .int .i64 x101) (et rfl e117_7)) ?_
      refine Ry rfl rfl wn (ym (v := h2.v) (et rfl e117_0)) ?_
      refine Ry rfl rfl wn (ym (v := .int .i64 x101) (et rfl e117_7)) ?_
      refine Ry rfl rfl wn (ysub (et rfl rfl) rfl) ?_
      refine Ry rfl rfl wn (ym (v := h2.v) (et rfl e117_0)) ?_
      refine Ry rfl rfl wn (ym (v := .int .i64 x101) (et rfl e117_7)) ?_
      refine Ry rfl rfl wn (ysub (et rfl rfl) rfl) ?_
      refine Ry rfl rfl wn (yIa SL_22 (et rfl rfl) (et rfl rfl) hst (rdO mhR) gx123) ?_
      refine Ry rfl rfl wn (yI O_3 (et rfl rfl) hst (rdO mhR) gx123) ?_
      refine Ry rfl rfl wn (ym (v := h2.v) (et rfl e117_0)) ?_
      refine Ry rfl rfl wn (ym (v := .int .i64 x101) (et rfl e117_7)) ?_
      refine Ry rfl rfl wn (yIa SL_22 (et rfl rfl) (et rfl rfl) hst (rdO mhR) gx124) ?_
      refine Ry rfl rfl wn (yI O_3 (et rfl rfl) hst (rdO mhR) gx124) ?_
      refine Ry rfl rfl wn (yIs SL_22 (et rfl rfl) (et rfl rfl) hst (rdO mhR) gx125) ?_
      refine Rn QSn ?_
      refine Lc rfl ?_ LAn
      refine LT wn (r_sti (cs := [.int .i64 x123]) hst O_3 rfl (et rfl rfl) (et rfl rfl) rfl mkI gx125) ?_
      clear hst
      intro w hst
      refine DRn (l1 := [16]) (l2 := [2, 3, 4]) (lc := [17]) (by kernel_rfl) (by kernel_rfl) (by kernel_rfl) ?_
      refine Ry rfl rfl wn (yIs SL_22 (et rfl rfl) (et rfl rfl) hst (rdO mhR) gx126) ?_
      refine Rn (Sy rfl rfl wn (ym (v := h2.v) (et rfl e117_0)) rfl (Sy rfl rfl wn (ym (v := .int .i64 x101) (et rfl e117_7)) rfl (Sy rfl rfl wn (ysub (et rfl rfl) rfl) rfl QSn))) ?_
      refine Lc rfl ?_ LAn
      refine LT wn (r_sti (cs := [.int .i64 x124]) hst O_3 rfl (et rfl rfl) (et rfl rfl) rfl mkI gx126) ?_
      clear hst
      intro w hst
      refine DRz (l1 := []) (l2 := []) (by kernel_rfl) (by kernel_rfl) ?_
      refine Rn QSn ?_
      refine q56 _ _ _ ?_
      refine k55 _ _ ?_
      refine wp_region_lit ?_
      refine Y wn rfl (ym (v := .int .i64 x101) (et rfl e117_7)) ?_
      refine Y wn rfl (ysub (et rfl rfl) rfl) ?_
      refine Y wn rfl (ya (v := .int .i64 (ws .i64 x101 1)) (et rfl rfl)) ?_
      refine wpList_nil ?_
      obtain rfl := someI hM28
      exact n28 _ _ _ rfl ⟨_, _, _, rfl, rfl, e117_0, e117_1, e117_2, e117_6, rfl, hst⟩
    · refine condF (et rfl e117_30) (bfalse c122) ?_
      refine wp_exit ?_
      refine z53 _ _ _ rfl ?_
      obtain rfl := someI hM28
      refine zz28 _ _ _ _ rfl rfl ?_
      exact je28_0 _ _ _ e117_0 e117_1 e117_2 e117_6 hst (ho28 _ rfl)
  · refine condF (et rfl rfl) (decide_eq_false c88) ?_
    refine wp_exit ?_
    refine z39 _ _ _ rfl ?_
    obtain rfl := someI hM21
    refine zz21 _ _ _ _ rfl rfl ?_
    exact je21_0 _ _ _ hst (ho21 _ rfl)

theorem slices_order2Ordered_int_ok {w0 : World} {ros : List Fact} {rs : List Res} {w : World} {x1 : List Int} {x3 : Int} {x4 : Int} {x6 : Int} {h2 : Hdr} {b5 : Nat} {out : Int × Int × Int} (hM : slices_order2Ordered_int x1 x3 x4 x6 = some out) (q1 : imm (rI .i64) h2.v x1 ∈ ros) (hst : St w0 ros (box b5 3 [.int .i64 x6] :: rs) w) :
    Calls Try.prog 114 #[h2.v, .int .i64 x3, .int .i64 x4, .pointer (some ⟨b5, 0, none⟩)] w (fun e w => e = .returned (.tuple #[.int .i64 out.2.1, .int .i64 out.2.2]) ∧ St w0 (ros) (box b5 3 [.int .i64 out.1] :: rs) w) := by
  refine enterQ Try.func114 rfl Try.ntmps114 rfl fun Q hQ => ?_
  refine seqQ fun Q1 k1 z1 => ?_
  refine wp_region_lit ?_
  refine Y wn rfl (ya (v := .int .i64 0) rfl) ?_
  refine Y wn rfl (ya (v := .int .i64 0) rfl) ?_
  refine wpList_nil ?_
  refine k1 _ _ ?_
  refine seqQ fun Q2 k2 z2 => ?_
  refine seqQ fun Q3 k3 z3 => ?_
  obtain ⟨x7, gx7, hM⟩ := bs hM
  obtain ⟨x8, gx8, hM⟩ := bs hM
  obtain ⟨r9, gr9, hM⟩ := bs hM
  refine wp_drawR [0, 0, 3, 7, 0, 0, 48, 112, 255] [8] 1 folM (by kernel_rfl) (by kernel_rfl) (by kernel_rfl) ?_
  replace hst := hst.drew
  refine DRn (l1 := [0, 1, 2, 3, 4, 5, 6, 7]) (l2 := []) (lc := [8]) (by kernel_rfl) (by kernel_rfl) (by kernel_rfl) ?_
  refine Ry rfl rfl wn (ym (v := h2.v) (et rfl rfl)) ?_
  refine Ry rfl rfl wn (ym (v := .int .i64 x4) (et rfl rfl)) ?_
  refine Ry rfl rfl wn (yIa SL_22 (et rfl rfl) (et rfl rfl) hst (rdI q1) gx7) ?_
  refine Ry rfl rfl wn (yI O_3 (et rfl rfl) hst (rdI q1) gx7) ?_
  refine Ry rfl rfl wn (ym (v := h2.v) (et rfl rfl)) ?_
  refine Ry rfl rfl wn (ym (v := .int .i64 x3) (et rfl rfl)) ?_
  refine Ry rfl rfl wn (yIa SL_22 (et rfl rfl) (et rfl rfl) hst (rdI q1) gx8) ?_
  refine Ry rfl rfl wn (yI O_3 (et rfl rfl) hst (rdI q1) gx8) ?_
  refine Rn QSn ?_
  refine Lc rfl ?_ LAn
  refine Lk wn (yCall FN_94 (a2 (et rfl rfl) (et rfl rfl))) (cmp_Less_int_ok (hM := gr9) (hst := hst) ) ?_
  clear hst
  rintro _ w ⟨rfl, hst⟩
  refine ⟨_, rfl, ?_⟩
  refine DRz (l1 := []) (l2 := []) (by kernel_rfl) (by kernel_rfl) ?_
  refine Rn QSn ?_
  refine k3 _ _ ?_
  rcases iteS hM with ⟨c10, hM⟩ | ⟨c10, hM⟩
  · refine condT (et rfl rfl) c10 ?_
    refine seqQ fun Q4 k4 z4 => ?_
    refine wp_region_lit ?_
    refine Y wn rfl (ym (v := .pointer (some ⟨b5, 0, none⟩)) (et rfl rfl)) ?_
    refine Y wn rfl (yn (et rfl rfl)) ?_
    refine Y wn rfl (yLb (u := .int .i64 x6) O_3 (et rfl rfl) hst mhR rfl) ?_
    refine Y wn rfl (yadd (et rfl rfl) rfl) ?_
    refine Y wn rfl (yn (et rfl rfl)) ?_
    refine YT wn rfl (r_stb1 (vals' := [.int .i64 (wa .i64 x6 1)]) hst O_3 (et rfl rfl) (et rfl rfl) rfl rfl rfl rfl) ?_
    clear hst
    intro w hst
    refine wpList_nil ?_
    refine k4 _ _ ?_
    refine seqQ fun Q5 k5 z5 => ?_
    refine wp_region_lit ?_
    refine Y wn rfl (ym (v := .int .i64 x4) (et rfl rfl)) ?_
    refine Y wn rfl (ym (v := .int .i64 x3) (et rfl rfl)) ?_
    refine Y wn rfl (ya (v := .int .i64 x4) (et rfl rfl)) ?_
    refine Y wn rfl (ya (v := .int .i64 x3) (et rfl rfl)) ?_
    refine wpList_nil ?_
    refine k5 _ _ ?_
    refine wp_ret ?_
    refine z2 _ _ _ rfl ?_
    obtain rfl := someI hM
    exact hQ _ _ _ (fin2r Try.results114 ⟨rfl, rfl⟩ ⟨rfl, rfl⟩ ⟨rfl, hst⟩)
  · refine condF (et rfl rfl) (bfalse c10) ?_
    refine wp_skip ?_
    refine k2 _ _ ?_
    refine seqQ fun Q6 k6 z6 => ?_
    refine wp_region_lit ?_
    refine Y wn rfl (ym (v := .int .i64 x3) (et rfl rfl)) ?_
    refine Y wn rfl (ym (v := .int .i64 x4) (et rfl rfl)) ?_
    refine Y wn rfl (ya (v := .int .i64 x3) (et rfl rfl)) ?_
    refine Y wn rfl (ya (v := .int .i64 x4) (et rfl rfl)) ?_
    refine wpList_nil ?_
    refine k6 _ _ ?_
    refine wp_ret ?_
    obtain rfl := someI hM
    exact hQ _ _ _ (fin2r Try.results114 ⟨rfl, rfl⟩ ⟨rfl, rfl⟩ ⟨rfl, hst⟩)

theorem slices_medianOrdered_int_ok {w0 : World} {ros : List Fact} {rs : List Res} {w : World} {x1 : List Int} {x3 : Int} {x4 : Int} {x5 : Int} {x7 : Int} {h2 : Hdr} {b6 : Nat} {out : Int × Int} (hM : slices_medianOrdered_int x1 x3 x4 x5 x7 = some out) (q1 : imm (rI .i64) h2.v x1 ∈ ros) (hst : St w0 ros (box b6 3 [.int .i64 x7] :: rs) w) :
    Calls Try.prog 110 #[h2.v, .int .i64 x3, .int .i64 x4, .int .i64 x5, .pointer (some ⟨b6, 0, none⟩)] w (fun e w => e = .returned (.int .i64 out.2) ∧ St w0 (ros) (box b6 3 [.int .i64 out.1] :: rs) w) := by
  refine enterQ Try.func110 rfl Try.ntmps110 rfl fun Q hQ => ?_
  refine seqQ fun Q1 k1 z1 => ?_
  refine wp_region_lit ?_
  refine Y wn rfl (ya (v := .int .i64 0) rfl) ?_
  refine wpList_nil ?_
  refine k1 _ _ ?_
  refine seqQ fun Q2 k2 z2 => ?_
  refine wp_region_lit ?_
  refine Y wn rfl (ym (v := h2.v) (et rfl rfl)) ?_
  refine Y wn rfl (ym (v := .int .i64 x3) (et rfl rfl)) ?_
  refine Y wn rfl (ym (v := .int .i64 x4) (et rfl rfl)) ?_
  refine Y wn rfl (ym (v := .pointer (some ⟨b6, 0, none⟩)) (et rfl rfl)) ?_
  obtain ⟨r8, gr8, hM⟩ := bs hM
  refine Yc wn rfl (yCall FN_114 (a4 (et rfl rfl) (et rfl rfl) (et rfl rfl) (et rfl rfl))) (slices_order2Ordered_int_ok (hM := gr8) (hst := hst) (q1 := q1)) ?_
  clear hst
  rintro _ w ⟨rfl, hst⟩
  refine ⟨_, rfl, ?_⟩
  refine Y wn rfl (ym (v := .tuple #[.int .i64 r8.2.1, .int .i64 r8.2.2]) (et rfl rfl)) ?_
  refine Y wn rfl (yx (v := .int .i64 r8.2.1) (et rfl rfl) rfl) ?_
  refine Y wn rfl (yx (v := .int .i64 r8.2.2) (et rfl rfl) rfl) ?_
  refine Y wn rfl (ya (v := .int .i64 r8.2.1) (et rfl rfl)) ?_
  refine Y wn rfl (ya (v := .int .i64 r8.2.2) (et rfl rfl)) ?_
  refine wpList_nil ?_
  refine k2 _ _ ?_
  refine seqQ fun Q3 k3 z3 => ?_
  refine wp_region_lit ?_
  refine Y wn rfl (ym (v := h2.v) (et rfl rfl)) ?_
  refine Y wn rfl (ym (v := .int .i64 r8.2.2) (et rfl rfl)) ?_
  refine Y wn rfl (ym (v := .int .i64 x5) (et rfl rfl)) ?_
  refine Y wn rfl (ym (v := .pointer (some ⟨b6, 0, none⟩)) (et rfl rfl)) ?_
  obtain ⟨r9, gr9, hM⟩ := bs hM
  refine Yc wn rfl (yCall FN_114 (a4 (et rfl rfl) (et rfl rfl) (et rfl rfl) (et rfl rfl))) (slices_order2Ordered_int_ok (hM := gr9) (hst := hst) (q1 := q1)) ?_
  clear hst
  rintro _ w ⟨rfl, hst⟩
  refine ⟨_, rfl, ?_⟩
  refine Y wn rfl (ym (v := .tuple #[.int .i64 r9.2.1, .int .i64 r9.2.2]) (et rfl rfl)) ?_
  refine Y wn rfl (yx (v := .int .i64 r9.2.1) (et rfl rfl) rfl) ?_
  refine Y wn rfl (yx (v := .int .i64 r9.2.2) (et rfl rfl) rfl) ?_
  refine Y wn rfl (ya (v := .int .i64 r9.2.1) (et rfl rfl)) ?_
  refine Y wn rfl (ya (v := .int .i64 r9.2.2) (et rfl rfl)) ?_
  refine wpList_nil ?_
  refine k3 _ _ ?_
  refine seqQ fun Q4 k4 z4 => ?_
  refine wp_region_lit ?_
  refine Y wn rfl (ym (v := h2.v) (et rfl rfl)) ?_
  refine Y wn rfl (ym (v := .int .i64 r8.2.1) (et rfl rfl)) ?_
  refine Y wn rfl (ym (v := .int .i64 r9.2.1) (et rfl rfl)) ?_
  refine Y wn rfl (ym (v := .pointer (some ⟨b6, 0, none⟩)) (et rfl rfl)) ?_
  obtain ⟨r10, gr10, hM⟩ := bs hM
  refine Yc wn rfl (yCall FN_114 (a4 (et rfl rfl) (et rfl rfl) (et rfl rfl) (et rfl rfl))) (slices_order2Ordered_int_ok (hM := gr10) (hst := hst) (q1 := q1)) ?_
  clear hst
  rintro _ w ⟨rfl, hst⟩
  refine ⟨_, rfl, ?_⟩
  refine Y wn rfl (ym (v := .tuple #[.int .i64 r10.2.1, .int .i64 r10.2.2]) (et rfl rfl)) ?_
  refine Y wn rfl (yx (v := .int .i64 r10.2.1) (et rfl rfl) rfl) ?_
  refine Y wn rfl (yx (v := .int .i64 r10.2.2) (et rfl rfl) rfl) ?_
  refine Y wn rfl (ya (v := .int .i64 r10.2.1) (et rfl rfl)) ?_
  refine Y wn rfl (ya (v := .int .i64 r10.2.2) (et rfl rfl)) ?_
  refine wpList_nil ?_
  refine k4 _ _ ?_
  refine seqQ fun Q5 k5 z5 => ?_
  refine wp_region_lit ?_
  refine Y wn rfl (ym (v := .int .i64 r10.2.2) (et rfl rfl)) ?_
  refine Y wn rfl (ya (v := .int .i64 r10.2.2) (et rfl rfl)) ?_
  refine wpList_nil ?_
  refine k5 _ _ ?_
  refine wp_ret ?_
  obtain rfl := someI hM
  exact hQ _ _ _ (fin1r Try.results110 ⟨rfl, rfl⟩ ⟨rfl, hst⟩)

theorem slices_medianAdjacentOrdered_int_ok {w0 : World} {ros : List Fact} {rs : List Res} {w : World} {x1 : List Int} {x3 : Int} {x5 : Int} {h2 : Hdr} {b4 : Nat} {out : Int × Int} (hM : slices_medianAdjacentOrdered_int x1 x3 x5 = some out) (q1 : imm (rI .i64) h2.v x1 ∈ ros) (hst : St w0 ros (box b4 3 [.int .i64 x5] :: rs) w) :
    Calls Try.prog 109 #[h2.v, .int .i64 x3, .pointer (some ⟨b4, 0, none⟩)] w (fun e w => e = .returned (.int .i64 out.2) ∧ St w0 (ros) (box b4 3 [.int .i64 out.1] :: rs) w) := by
  refine enterQ Try.func109 rfl Try.ntmps109 rfl fun Q hQ => ?_
  refine seqQ fun Q1 k1 z1 => ?_
  refine wp_region_lit ?_
  refine Y wn rfl (ya (v := .int .i64 0) rfl) ?_
  refine wpList_nil ?_
  refine k1 _ _ ?_
  refine seqQ fun Q2 k2 z2 => ?_
  refine wp_region_lit ?_
  refine Y wn rfl (ym (v := h2.v) (et rfl rfl)) ?_
  refine Y wn rfl (ym (v := .int .i64 x3) (et rfl rfl)) ?_
  refine Y wn rfl (ysub (et rfl rfl) rfl) ?_
  refine Y wn rfl (ym (v := .int .i64 x3) (et rfl rfl)) ?_
  refine Y wn rfl (ym (v := .int .i64 x3) (et rfl rfl)) ?_
  refine Y wn rfl (yadd (et rfl rfl) rfl) ?_
  refine Y wn rfl (ym (v := .pointer (some ⟨b4, 0, none⟩)) (et rfl rfl)) ?_
  obtain ⟨r6, gr6, hM⟩ := bs hM
  refine Yc wn rfl (yCall FN_110 (a5 (et rfl rfl) (et rfl rfl) (et rfl rfl) (et rfl rfl) (et rfl rfl))) (slices_medianOrdered_int_ok (hM := gr6) (hst := hst) (q1 := q1)) ?_
  clear hst
  rintro _ w ⟨rfl, hst⟩
  refine ⟨_, rfl, ?_⟩
  refine Y wn rfl (ya (v := .int .i64 r6.2) (et rfl rfl)) ?_
  refine wpList_nil ?_
  refine k2 _ _ ?_
  refine wp_ret ?_
  obtain rfl := someI hM
  exact hQ _ _ _ (fin1r Try.results109 ⟨rfl, rfl⟩ ⟨rfl, hst⟩)

theorem slices_choosePivotOrdered_int_ok {w0 : World} {ros : List Fact} {rs : List Res} {w : World} {x1 : List Int} {x3 : Int} {x4 : Int} {h2 : Hdr} {out : Int × Int} (hM : slices_choosePivotOrdered_int x1 x3 x4 = some out) (q1 : imm (rI .i64) h2.v x1 ∈ ros) (hst : St w0 ros (rs) w) :
    Calls Try.prog 91 #[h2.v, .int .i64 x3, .int .i64 x4] w (fun e w => e = .returned (.tuple #[.int .i64 out.1, .int .i64 out.2]) ∧ St w0 (ros) (rs) w) := by
  refine enterQ Try.func91 rfl Try.ntmps91 rfl fun Q hQ => ?_
  refine seqQ fun Q1 k1 z1 => ?_
  refine wp_region_lit ?_
  refine Y wn rfl (ya (v := .int .i64 0) rfl) ?_
  refine Y wn rfl (ya (v := .int .i64 0) rfl) ?_
  refine wpList_nil ?_
  refine k1 _ _ ?_
  refine seqQ fun Q2 k2 z2 => ?_
  refine wp_region_lit ?_
  refine Y wn rfl (ym (v := .int .i64 x4) (et rfl rfl)) ?_
  refine Y wn rfl (ym (v := .int .i64 x3) (et rfl rfl)) ?_
  refine Y wn rfl (ysub (et rfl rfl) (et rfl rfl)) ?_
  refine Y wn rfl (ya (v := .int .i64 (ws .i64 x4 x3)) (et rfl rfl)) ?_
  refine wpList_nil ?_
  refine k2 _ _ ?_
  refine seqQ fun Q3 k3 z3 => ?_
  refine wp_region_lit ?_
  refine YB wn rfl (rAl hst ZT_3) ?_
  clear hst
  intro b5 w hst
  refine wpList_nil ?_
  refine k3 _ _ ?_
  refine seqQ fun Q4 k4 z4 => ?_
  refine wp_region_lit ?_
  refine Y wn rfl (ym (v := .int .i64 x3) (et rfl rfl)) ?_
  refine Y wn rfl (ym (v := .int .i64 (ws .i64 x4 x3)) (et rfl rfl)) ?_
  refine Y wn rfl (yquoc (et rfl rfl) rfl (by decide)) ?_
  refine Y wn rfl (ymul (et rfl rfl) rfl) ?_
  refine Y wn rfl (yadd (et rfl rfl) (et rfl rfl)) ?_
  refine Y wn rfl (ya (v := .int .i64 (wa .i64 x3 (wm .i64 (wqc .i64 (ws .i64 x4 x3) 4) 1))) (et rfl rfl)) ?_
  refine wpList_nil ?_
  refine k4 _ _ ?_
  refine seqQ fun Q5 k5 z5 => ?_
  refine wp_region_lit ?_
  refine Y wn rfl (ym (v := .int .i64 x3) (et rfl rfl)) ?_
  refine Y wn rfl (ym (v := .int .i64 (ws .i64 x4 x3)) (et rfl rfl)) ?_
  refine Y wn rfl (yquoc (et rfl rfl) rfl (by decide)) ?_
  refine Y wn rfl (ymul (et rfl rfl) rfl) ?_
  refine Y wn rfl (yadd (et rfl rfl) (et rfl rfl)) ?_
  refine Y wn rfl (ya (v := .int .i64 (wa .i64 x3 (wm .i64 (wqc .i64 (ws .i64 x4 x3) 4) 2))) (et rfl rfl)) ?_
  refine wpList_nil ?_
  refine k5 _ _ ?_
  refine seqQ fun Q6 k6 z6 => ?_
  refine wp_region_lit ?_
  refine Y wn rfl (ym (v := .int .i64 x3) (et rfl rfl)) ?_
  refine Y wn rfl (ym (v := .int .i64 (ws .i64 x4 x3)) (et rfl rfl)) ?_
  refine Y wn rfl (yquoc (et rfl rfl) rfl (by decide)) ?_
  refine Y wn rfl (ymul (et rfl rfl) rfl) ?_
  refine Y wn rfl (yadd (et rfl rfl) (et rfl rfl)) ?_
  refine Y wn rfl (ya (v := .int .i64 (wa .i64 x3 (wm .i64 (wqc .i64 (ws .i64 x4 x3) 4) 3))) (et rfl rfl)) ?_
  refine wpList_nil ?_
  refine k6 _ _ ?_
  refine seqQ fun Q7 k7 z7 => ?_
  refine seqQ fun Q8 k8 z8 => ?_
  refine wp_region_lit ?_
  refine Y wn rfl (ym (v := .int .i64 (ws .i64 x4 x3)) (et rfl rfl)) ?_
  refine Y wn rfl (ygeq (et rfl rfl) rfl) ?_
  refine wpList_nil ?_
  refine k8 _ _ ?_
  have j2 : ∀ (x18 : Int) (x19 : Int) (f : Nat → Value) (w : World), f 9 = .pointer (some ⟨b5, 0, none⟩) → f 11 = .int .i64 x19 → St w0 (ros) (box b5 3 [.int .i64 x18] :: rs) w → slices_choosePivotOrdered_int_j2 x18 x19 = some out → Q7 .normal (fr 57 f) w := by
    intro x18 x19 f w ej2_9 ej2_11 hst hM
    refine k7 _ _ ?_
    refine seqQ fun Q15 k15 z15 => ?_
    refine wp_region_lit ?_
    refine Y wn rfl (yLb (u := .int .i64 x18) O_3 (et rfl ej2_9) hst mhR rfl) ?_
    refine wpList_nil ?_
    refine k15 _ _ ?_
    refine blockQ fun Q16 q16 => ?_
    refine seqQ fun Q17 k17 z17 => ?_
    refine wp_region_lit ?_
    refine Y wn rfl (yeql (et rfl rfl) rfl) ?_
    refine Y wn rfl (ya (v := .bool (decide (x18 = 0))) (et rfl rfl)) ?_
    refine wpList_nil ?_
    refine k17 _ _ ?_
    rcases iteS hM with ⟨c20, hM⟩ | ⟨c20, hM⟩
    · refine condT (et rfl rfl) (decide_eq_true c20) ?_
      refine seqQ fun Q18 k18 z18 => ?_
      refine wp_region_lit ?_
      refine Y wn rfl (ym (v := .int .i64 x19) (et rfl ej2_11)) ?_
      refine Y wn rfl (ya (v := .int .i64 x19) (et rfl rfl)) ?_
      refine Y wn rfl (ya (v := .int .i64 1) rfl) ?_
      refine wpList_nil ?_
      refine k18 _ _ ?_
      refine wp_ret ?_
      refine q16 _ _ _ ?_
      obtain rfl := someI hM
      exact hQ _ _ _ (fin2r Try.results91 ⟨rfl, rfl⟩ ⟨rfl, rfl⟩ ⟨rfl, (hst.pk 1 [] rfl)⟩)
    · refine condF (et rfl rfl) (decide_eq_false c20) ?_
      refine seqQ fun Q19 k19 z19 => ?_
      refine wp_region_lit ?_
      refine Y wn rfl (yeql (et rfl rfl) rfl) ?_
      refine Y wn rfl (ya (v := .bool (decide (x18 = 12))) (et rfl rfl)) ?_
      refine wpList_nil ?_
      refine k19 _ _ ?_
      rcases iteS hM with ⟨c21, hM⟩ | ⟨c21, hM⟩
      · refine condT (et rfl rfl) (decide_eq_true c21) ?_
        refine seqQ fun Q20 k20 z20 => ?_
        refine wp_region_lit ?_
        refine Y wn rfl (ym (v := .int .i64 x19) (et rfl ej2_11)) ?_
        refine Y wn rfl (ya (v := .int .i64 x19) (et rfl rfl)) ?_
        refine Y wn rfl (ya (v := .int .i64 2) rfl) ?_
        refine wpList_nil ?_
        refine k20 _ _ ?_
        refine wp_ret ?_
        refine q16 _ _ _ ?_
        obtain rfl := someI hM
        exact hQ _ _ _ (fin2r Try.results91 ⟨rfl, rfl⟩ ⟨rfl, rfl⟩ ⟨rfl, (hst.pk 1 [] rfl)⟩)
      · refine condF (et rfl rfl) (decide_eq_false c21) ?_
        refine seqQ fun Q21 k21 z21 => ?_
        refine wp_region_lit ?_
        refine Y wn rfl (ym (v := .int .i64 x19) (et rfl ej2_11)) ?_
        refine Y wn rfl (ya (v := .int .i64 x19) (et rfl rfl)) ?_
        refine Y wn rfl (ya (v := .int .i64 0) rfl) ?_
        refine wpList_nil ?_
        refine k21 _ _ ?_
        refine wp_ret ?_
        refine q16 _ _ _ ?_
        obtain rfl := someI hM
        exact hQ _ _ _ (fin2r Try.results91 ⟨rfl, rfl⟩ ⟨rfl, rfl⟩ ⟨rfl, (hst.pk 1 [] rfl)⟩)
  rcases iteS hM with ⟨c22, hM⟩ | ⟨c22, hM⟩
  · refine condT (et rfl rfl) (decide_eq_true c22) ?_
    refine seqQ fun Q22 k22 z22 => ?_
    refine seqQ fun Q23 k23 z23 => ?_
    refine wp_region_lit ?_
    refine Y wn rfl (ym (v := .int .i64 (ws .i64 x4 x3)) (et rfl rfl)) ?_
    refine Y wn rfl (ygeq (et rfl rfl) rfl) ?_
    refine wpList_nil ?_
    refine k23 _ _ ?_
    have j3 : ∀ (x26 : Int) (x27 : Int) (x28 : Int) (x29 : Int) (f : Nat → Value) (w : World), f 0 = h2.v → f 9 = .pointer (some ⟨b5, 0, none⟩) → f 10 = .int .i64 x27 → f 11 = .int .i64 x28 → f 12 = .int .i64 x29 → St w0 (ros) (box b5 3 [.int .i64 x26] :: rs) w → slices_choosePivotOrdered_int_j3 x1 x26 x27 x28 x29 = some out → Q22 .normal (fr 57 f) w := by
      intro x26 x27 x28 x29 f w ej3_0 ej3_9 ej3_10 ej3_11 ej3_12 hst hM
      refine k22 _ _ ?_
      refine wp_region_lit ?_
      refine Y wn rfl (ym (v := h2.v) (et rfl ej3_0)) ?_
      refine Y wn rfl (ym (v := .int .i64 x27) (et rfl ej3_10)) ?_
      refine Y wn rfl (ym (v := .int .i64 x28) (et rfl ej3_11)) ?_
      refine Y wn rfl (ym (v := .int .i64 x29) (et rfl ej3_12)) ?_
      obtain ⟨r30, gr30, hM⟩ := bs hM
      refine Yc wn rfl (yCall FN_110 (a5 (et rfl rfl) (et rfl rfl) (et rfl rfl) (et rfl rfl) (et rfl ej3_9))) (slices_medianOrdered_int_ok (hM := gr30) (hst := hst) (q1 := q1)) ?_
      clear hst
      rintro _ w ⟨rfl, hst⟩
      refine ⟨_, rfl, ?_⟩
      refine Y wn rfl (ya (v := .int .i64 r30.2) (et rfl rfl)) ?_
      refine wpList_nil ?_
      exact j2 _ _ _ _ ej3_9 rfl hst hM
    rcases iteS hM with ⟨c31, hM⟩ | ⟨c31, hM⟩
    · refine condT (et rfl rfl) (decide_eq_true c31) ?_
      refine seqQ fun Q26 k26 z26 => ?_
      refine wp_region_lit ?_
      refine Y wn rfl (ym (v := h2.v) (et rfl rfl)) ?_
      refine Y wn rfl (ym (v := .int .i64 (wa .i64 x3 (wm .i64 (wqc .i64 (ws .i64 x4 x3) 4) 1))) (et rfl rfl)) ?_
      obtain ⟨r32, gr32, hM⟩ := bs hM
      refine Yc wn rfl (yCall FN_109 (a3 (et rfl rfl) (et rfl rfl) (et rfl rfl))) (slices_medianAdjacentOrdered_int_ok (hM := gr32) (hst := hst) (q1 := q1)) ?_
      clear hst
      rintro _ w ⟨rfl, hst⟩
      refine ⟨_, rfl, ?_⟩
      refine Y wn rfl (ya (v := .int .i64 r32.2) (et rfl rfl)) ?_
      refine wpList_nil ?_
      refine k26 _ _ ?_
      refine seqQ fun Q27 k27 z27 => ?_
      refine wp_region_lit ?_
      refine Y wn rfl (ym (v := h2.v) (et rfl rfl)) ?_
      refine Y wn rfl (ym (v := .int .i64 (wa .i64 x3 (wm .i64 (wqc .i64 (ws .i64 x4 x3) 4) 2))) (et rfl rfl)) ?_
      obtain ⟨r33, gr33, hM⟩ := bs hM
      refine Yc wn rfl (yCall FN_109 (a3 (et rfl rfl) (et rfl rfl) (et rfl rfl))) (slices_medianAdjacentOrdered_int_ok (hM := gr33) (hst := hst) (q1 := q1)) ?_
      clear hst
      rintro _ w ⟨rfl, hst⟩
      refine ⟨_, rfl, ?_⟩
      refine Y wn rfl (ya (v := .int .i64 r33.2) (et rfl rfl)) ?_
      refine wpList_nil ?_
      refine k27 _ _ ?_
      refine wp_region_lit ?_
      refine Y wn rfl (ym (v := h2.v) (et rfl rfl)) ?_
      refine Y wn rfl (ym (v := .int .i64 (wa .i64 x3 (wm .i64 (wqc .i64 (ws .i64 x4 x3) 4) 3))) (et rfl rfl)) ?_
      obtain ⟨r34, gr34, hM⟩ := bs hM
      refine Yc wn rfl (yCall FN_109 (a3 (et rfl rfl) (et rfl rfl) (et rfl rfl))) (slices_medianAdjacentOrdered_int_ok (hM := gr34) (hst := hst) (q1 := q1)) ?_
      clear hst
      rintro _ w ⟨rfl, hst⟩
      refine ⟨_, rfl, ?_⟩
      refine Y wn rfl (ya (v := .int .i64 r34.2) (et rfl rfl)) ?_
      refine wpList_nil ?_
      exact j3 _ _ _ _ _ _ rfl rfl rfl rfl rfl hst hM
    · refine condF (et rfl rfl) (decide_eq_false c31) ?_
      refine wp_skip ?_
      exact j3 _ _ _ _ _ _ rfl rfl rfl rfl rfl hst hM
  · refine condF (et rfl rfl) (decide_eq_false c22) ?_
    refine wp_skip ?_
    exact j2 _ _ _ _ rfl rfl hst hM

theorem slices_pdqsortOrdered_int_ok {w0 : World} {ros : List Fact} {rs : List Res} {w : World} {x1 : List Int} {x3 : Int} {x4 : Int} {x5 : Int} {h2 : Hdr} {out : (List Int)} (hM : slices_pdqsortOrdered_int x1 x3 x4 x5 = some out) (hst : St w0 ros (row 3 (rI .i64) h2.v x1 :: rs) w) :
    Calls Try.prog 74 #[h2.v, .int .i64 x3, .int .i64 x4, .int .i64 x5] w (fun e w => e = .returned (.tuple #[]) ∧ St w0 (ros) (row 3 (rI .i64) h2.v out :: rs) w) := by
  refine enterQ Try.func74 rfl Try.ntmps74 rfl fun Q hQ => ?_
  refine seqQ fun Q1 k1 z1 => ?_
  refine wp_region_lit ?_
  refine Y wn rfl (ya (v := .bool true) rfl) ?_
  refine wpList_nil ?_
  refine k1 _ _ ?_
  refine seqQ fun Q2 k2 z2 => ?_
  refine wp_region_lit ?_
  refine Y wn rfl (ya (v := .bool true) rfl) ?_
  refine wpList_nil ?_
  refine k2 _ _ ?_
  refine blockQ fun Q3 q3 => ?_
  obtain ⟨o11, go11, hM⟩ := bs hM
  have je11_0 : ∀ (x32 : List Int) (f : Nat → Value) (w : World), St w0 (ros) (row 3 (rI .i64) h2.v x32 :: rs) w → x32 = o11 → Q3 .ret (fr 134 f) w := by
    intro x32 f w hst ho
    subst ho
    refine q3 _ _ _ ?_
    obtain rfl := someI hM
    exact hQ _ _ _ (fin0r Try.results74 ⟨rfl, hst⟩)
  refine loopQ (fun s a w => ∃ (f : Nat → Value), () = s ∧ a = fr 134 f ∧ f 0 = h2.v ∧ f 1 = .int .i64 x3 ∧ f 2 = .int .i64 x4 ∧ f 3 = .int .i64 x5 ∧ f 8 = .bool true ∧ f 9 = .bool true ∧ St w0 (ros) (row 3 (rI .i64) h2.v x1 :: rs) w) go11 ⟨_, rfl, rfl, rfl, rfl, rfl, rfl, rfl, rfl, hst⟩ ?_
  clear hst
  rintro _ _ w r11_ ⟨f, rfl, rfl, e11_0, e11_1, e11_2, e11_3, e11_8, e11_9, hst⟩ hM11 ho11 Q100011 n11 zz11
  refine blockQ fun Q61 q61 => ?_
  refine seqQ fun Q62 k62 z62 => ?_
  refine wp_region_lit ?_
  refine Y wn rfl (ym (v := .int .i64 x4) (et rfl e11_2)) ?_
  refine Y wn rfl (ym (v := .int .i64 x3) (et rfl e11_1)) ?_
  refine Y wn rfl (ysub (et rfl rfl) (et rfl rfl)) ?_
  refine Y wn rfl (ya (v := .int .i64 (ws .i64 x4 x3)) (et rfl rfl)) ?_
  refine wpList_nil ?_
  refine k62 _ _ ?_
  refine seqQ fun Q63 k63 z63 => ?_
  refine seqQ fun Q64 k64 z64 => ?_
  refine wp_region_lit ?_
  refine Y wn rfl (ym (v := .int .i64 (ws .i64 x4 x3)) (et rfl rfl)) ?_
  refine Y wn rfl (yleq (et rfl rfl) rfl) ?_
  refine wpList_nil ?_
  refine k64 _ _ ?_
  rcases iteS hM11 with ⟨c36, hM11⟩ | ⟨c36, hM11⟩
  · refine condT (et rfl rfl) (decide_eq_true c36) ?_
    refine seqQ fun Q65 k65 z65 => ?_
    refine wp_region_lit ?_
    refine Y wn rfl (ym (v := h2.v) (et rfl e11_0)) ?_
    refine Y wn rfl (ym (v := .int .i64 x3) (et rfl e11_1)) ?_
    refine Y wn rfl (ym (v := .int .i64 x4) (et rfl e11_2)) ?_
    obtain ⟨r37, gr37, hM11⟩ := bs hM11
    refine Yc wn rfl (yCall FN_88 (a3 (et rfl rfl) (et rfl rfl) (et rfl rfl))) (slices_insertionSortOrdered_int_ok (hM := gr37) (hst := hst) ) ?_
    clear hst
    rintro _ w ⟨rfl, hst⟩
    refine ⟨_, rfl, ?_⟩
    refine wpList_nil ?_
    refine k65 _ _ ?_
    refine wp_ret ?_
    refine z63 _ _ _ rfl ?_
    refine q61 _ _ _ ?_
    obtain rfl := someI hM11
    refine zz11 _ _ _ _ rfl rfl ?_
    exact je11_0 _ _ _ hst (ho11 _ rfl)
  · refine condF (et rfl rfl) (decide_eq_false c36) ?_
    refine wp_skip ?_
    refine k63 _ _ ?_
    refine seqQ fun Q66 k66 z66 => ?_
    refine seqQ fun Q67 k67 z67 => ?_
    refine wp_region_lit ?_
    refine Y wn rfl (ym (v := .int .i64 x5) (et rfl e11_3)) ?_
    refine Y wn rfl (yeql (et rfl rfl) rfl) ?_
    refine wpList_nil ?_
    refine k67 _ _ ?_
    rcases iteS hM11 with ⟨c38, hM11⟩ | ⟨c38, hM11⟩
    · refine condT (et rfl rfl) (decide_eq_true c38) ?_
      cases hM11
    · refine condF (et rfl rfl) (decide_eq_false c38) ?_
      cases hM11

theorem slices_Sort_int_ok {w0 : World} {ros : List Fact} {rs : List Res} {w : World} {x1 : List Int} {h2 : Hdr} {out : (List Int)} (hM : slices_Sort_int x1 = some out) (hst : St w0 ros (row 3 (rI .i64) h2.v x1 :: rs) w) :
    Calls Try.prog 55 #[h2.v] w (fun e w => e = .returned (.tuple #[]) ∧ St w0 (ros) (row 3 (rI .i64) h2.v out :: rs) w) := by
  refine enterQ Try.func55 rfl Try.ntmps55 rfl fun Q hQ => ?_
  refine seqQ fun Q1 k1 z1 => ?_
  refine wp_region_lit ?_
  refine Y wn rfl (ym (v := h2.v) (et rfl rfl)) ?_
  refine Y wn rfl (yLen SL_22 (et rfl rfl) hst (rdO mhR)) ?_
  refine Y wn rfl (ya (v := .int .i64 (x1.length : Int)) (et rfl rfl)) ?_
  refine wpList_nil ?_
  refine k1 _ _ ?_
  refine wp_region_lit ?_
  refine Y wn rfl (ym (v := h2.v) (et rfl rfl)) ?_
  refine Y wn rfl (ym (v := .int .i64 (x1.length : Int)) (et rfl rfl)) ?_
  refine Y wn rfl (ym (v := .int .i64 (x1.length : Int)) (et rfl rfl)) ?_
  refine Y wn rfl (ycv (k' := .u64) (by kernel_rfl) (by kernel_rfl) (et rfl rfl)) ?_
  obtain ⟨r3, gr3, hM⟩ := bs hM
  refine Yc wn rfl (yCall FN_75 (a1 (et rfl rfl))) (math_bits_Len_ok (hM := gr3) (hst := hst) ) ?_
  clear hst
  rintro _ w ⟨rfl, hst⟩
  refine ⟨_, rfl, ?_⟩
  obtain ⟨r4, gr4, hM⟩ := bs hM
  refine Yc wn rfl (yCall FN_74 (a4 (et rfl rfl) rfl (et rfl rfl) (et rfl rfl))) (slices_pdqsortOrdered_int_ok (hM := gr4) (hst := hst) ) ?_
  clear hst
  rintro _ w ⟨rfl, hst⟩
  refine ⟨_, rfl, ?_⟩
  refine wpList_nil ?_
  obtain rfl := someI hM
  exact hQ _ _ _ (fin0n Try.results55 ⟨rfl, hst⟩)

theorem graph_levels_ok {w0 : World} {ros : List Fact} {rs : List Res} {w : World} {x1 : List (List Int)} {x3 : Int} {h2 : Hdr} {out : (List (List Int))} (hM : graph_levels x1 x3 = some out) (q1 : imm (rS (rI .i64)) h2.v x1 ∈ ros) (hst : St w0 ros (rs) w) :
    Calls Try.prog 54 #[.agg #[h2.v], .int .i64 x3] w (fun e w => ∃ (h100001 : Hdr), e = .returned (h100001.v) ∧ St w0 (ros) (row 22 (rS (rI .i64)) h100001.v out :: rs) w) := by
  refine enterQ Try.func54 rfl Try.ntmps54 rfl fun Q hQ => ?_
  refine seqQ fun Q1 k1 z1 => ?_
  refine wp_region_lit ?_
  refine YB wn rfl (r_box (vals := [h2.v]) hst (et rfl rfl) rfl) ?_
  clear hst
  intro b4 w hst
  refine Y wn rfl (ya (v := hnil.v) rfl) ?_
  refine wpList_nil ?_
  refine k1 _ _ ?_
  refine seqQ fun Q2 k2 z2 => ?_
  refine wp_region_lit ?_
  refine Y wn rfl (yFb FL_27_0 (et rfl rfl)) ?_
  refine Y wn rfl (yLb (u := h2.v) O_25 (et rfl rfl) hst mhR rfl) ?_
  refine Y wn rfl (yLen SL_25 (et rfl rfl) hst (rdI q1)) ?_
  obtain ⟨x7, gx7, hM⟩ := bs hM
  refine YH wn rfl (rMk hst SL_54 (et rfl rfl) gx7) ?_
  clear hst
  intro h5 w hst
  refine Y wn rfl (ya (v := h5.v) (et rfl rfl)) ?_
  refine wpList_nil ?_
  refine k2 _ _ ?_
  refine seqQ fun Q3 k3 z3 => ?_
  refine wp_region_lit ?_
  refine Y wn rfl (ym (v := h5.v) (et rfl rfl)) ?_
  refine Y wn rfl (ym (v := .int .i64 x3) (et rfl rfl)) ?_
  obtain ⟨x8, gx8, hM⟩ := bs hM
  refine Y wn rfl (yIs SL_54 (et rfl rfl) (et rfl rfl) hst (rdO mhR) gx8) ?_
  refine YT wn rfl (r_sti (cs := [.bool true]) hst O_4 rfl (et rfl rfl) rfl rfl mkB gx8) ?_
  clear hst
  intro w hst
  refine wpList_nil ?_
  refine k3 _ _ ?_
  refine seqQ fun Q4 k4 z4 => ?_
  refine wp_region_lit ?_
  refine Y wn rfl (ya (v := hnil.v) rfl) ?_
  refine wpList_nil ?_
  refine k4 _ _ ?_
  refine seqQ fun Q5 k5 z5 => ?_
  refine seqQ fun Q6 k6 z6 => ?_
  refine wp_region_lit ?_
  refine Y wn rfl (ym (v := .int .i64 x3) (et rfl rfl)) ?_
  refine YH wn rfl (rLt (n := 1) (l := [x3]) hst SL_22 [.int .i64 x3] (bp1 (et rfl rfl)) rfl rfl (mks1 (cs := [.int .i64 x3]) rfl mkI mks0)) ?_
  clear hst
  intro h9 w hst
  refine Y wn rfl (ya (v := h9.v) (et rfl rfl)) ?_
  refine wpList_nil ?_
  refine k6 _ _ ?_
  refine blockQ fun Q7 q7 => ?_
  obtain ⟨o27, go27, hM⟩ := bs hM
  have je27_0 : ∀ (x413 : List (List Int)) (h412 : Hdr) (f : Nat → Value) (w : World), f 6 = h412.v → St w0 (ros) (row 22 (rS (rI .i64)) h412.v x413 :: rs) w → x413 = o27 → Q7 (.exit 0) (fr 63 f) w := by
    intro x413 h412 f w eje27_0_6 hst ho
    subst ho
    refine q7 _ _ _ ?_
    refine k5 _ _ ?_
    refine seqQ fun Q212 k212 z212 => ?_
    refine wp_region_lit ?_
    refine Y wn rfl (ym (v := h412.v) (et rfl eje27_0_6)) ?_
    refine Y wn rfl (ya (v := h412.v) (et rfl rfl)) ?_
    refine wpList_nil ?_
    refine k212 _ _ ?_
    refine wp_ret ?_
    obtain rfl := someI hM
    exact hQ _ _ _ (fin1r Try.results54 ⟨rfl, rfl⟩ ⟨_, rfl, hst⟩)
  replace hst := hst.rowNh 22 (rS (rI .i64))
  refine loopQ (fun s a w => ∃ (x206 : List Bool) (x208 : List (List Int)) (x210 : List Int) (f : Nat → Value) (h207 : Hdr) (h209 : Hdr), (x206, x208, x210) = s ∧ a = fr 63 f ∧ f 2 = .pointer (some ⟨b4, 0, none⟩) ∧ f 5 = h5.v ∧ f 6 = h207.v ∧ f 7 = h209.v ∧ St w0 (ros) (box b4 27 [h2.v] :: row 4 rB h5.v x206 :: row 22 (rS (rI .i64)) h207.v x208 :: row 3 (rI .i64) h209.v x210 :: rs) w) go27 ⟨_, _, _, _, _, _, rfl, rfl, rfl, rfl, rfl, rfl, (hst.pk 4 [3, 2, 0, 0] rfl)⟩ ?_
  clear hst
  rintro _ _ w r27_ ⟨x206, x208, x210, f, h207, h209, rfl, rfl, e27_2, e27_5, e27_6, e27_7, hst⟩ hM27 ho27 Q100027 n27 zz27
  refine seqQ fun Q213 k213 z213 => ?_
  refine seqQ fun Q214 k214 z214 => ?_
  refine wp_region_lit ?_
  refine Y wn rfl (ym (v := h209.v) (et rfl e27_7)) ?_
  refine Y wn rfl (yLen SL_22 (et rfl rfl) hst (rdO (mtR (mtR (mtR mhR))))) ?_
  refine Y wn rfl (ygtr (et rfl rfl) rfl) ?_
  refine wpList_nil ?_
  refine k214 _ _ ?_
  rcases iteS hM27 with ⟨c414, hM27⟩ | ⟨c414, hM27⟩
  · refine condT (et rfl rfl) (decide_eq_true c414) ?_
    refine wp_skip ?_
    refine k213 _ _ ?_
    refine blockQ fun Q215 q215 => ?_
    refine seqQ fun Q216 k216 z216 => ?_
    refine wp_region_lit ?_
    refine Y wn rfl (ym (v := h207.v) (et rfl e27_6)) ?_
    refine Y wn rfl (ym (v := h209.v) (et rfl e27_7)) ?_
    replace hst := hst.pk 4 [3, 0, 0, 0] rfl
    replace hst := hst.fz
    refine YH wn rfl (rLt (n := 1) (l := [x210]) hst SL_25 [h209.v] (bp1 (et rfl rfl)) rfl rfl (mks1 (cs := [h209.v]) rfl (mkS mhF) mks0)) ?_
    clear hst
    intro h415 w hst
    obtain ⟨x417, gx417, hM27⟩ := bs hM27
    replace hst := hst.pk 4 [3, 0, 0, 0] rfl
    refine YH wn rfl (rAp hst SL_25 (et rfl rfl) (et rfl rfl) (rdO (mtR mhR)) gx417) ?_
    clear hst
    intro h416 w hst
    refine Y wn rfl (ya (v := h416.v) (et rfl rfl)) ?_
    refine wpList_nil ?_
    refine k216 _ _ ?_
    refine seqQ fun Q217 k217 z217 => ?_
    refine wp_region_lit ?_
    refine Y wn rfl (ya (v := hnil.v) rfl) ?_
    refine wpList_nil ?_
    refine k217 _ _ ?_
    refine seqQ fun Q218 k218 z218 => ?_
    refine seqQ fun Q219 k219 z219 => ?_
    refine wp_region_lit ?_
    refine Y wn rfl (ym (v := h209.v) (et rfl e27_7)) ?_
    refine Y wn rfl (yLen SL_22 (et rfl rfl) hst (rdI mhF)) ?_
    refine Y wn rfl (ym (v := .int .i64 0) rfl) ?_
    refine wpList_nil ?_
    refine k219 _ _ ?_
    refine blockQ fun Q220 q220 => ?_
    obtain ⟨o36, go36, hM27⟩ := bs hM27
    have je36_0 : ∀ (x546 : List Bool) (x548 : List Int) (h547 : Hdr) (f : Nat → Value) (w : World), f 2 = .pointer (some ⟨b4, 0, none⟩) → f 5 = h5.v → f 6 = h416.v → f 8 = h547.v → St w0 (ros) (box b4 27 [h2.v] :: row 4 rB h5.v x546 :: row 22 (rS (rI .i64)) h416.v x417 :: row 3 (rI .i64) h547.v x548 :: rs) w → (x546, x548) = o36 → Q220 (.exit 2) (fr 63 f) w := by
      intro x546 x548 h547 f w eje36_0_2 eje36_0_5 eje36_0_6 eje36_0_8 hst ho
      subst ho
      refine q220 _ _ _ ?_
      refine k218 _ _ ?_
      refine seqQ fun Q283 k283 z283 => ?_
      refine wp_region_lit ?_
      refine Y wn rfl (ym (v := h547.v) (et rfl eje36_0_8)) ?_
      obtain ⟨r549, gr549, hM27⟩ := bs hM27
      replace hst := hst.pk 4 [3, 0, 0, 0] rfl
      refine Yc wn rfl (yCall FN_55 (a1 (et rfl rfl))) (slices_Sort_int_ok (hM := gr549) (hst := hst) ) ?_
      clear hst
      rintro _ w ⟨rfl, hst⟩
      refine ⟨_, rfl, ?_⟩
      refine wpList_nil ?_
      refine k283 _ _ ?_
      refine wp_region_lit ?_
      refine Y wn rfl (ym (v := h547.v) (et rfl eje36_0_8)) ?_
      refine Y wn rfl (ya (v := h547.v) (et rfl rfl)) ?_
      refine wpList_nil ?_
      refine q215 _ _ _ ?_
      obtain rfl := someI hM27
      exact n27 _ _ _ rfl ⟨_, _, _, _, _, _, rfl, rfl, eje36_0_2, eje36_0_5, eje36_0_6, rfl, (hst.pk 4 [1, 1, 1, 0] rfl)⟩
    replace hst := hst.rowNh 3 (rI .i64)
    refine loopQ (fun s a w => ∃ (x478 : List Bool) (x480 : List Int) (x481 : Int) (f : Nat → Value) (h479 : Hdr), (x478, x480, x481) = s ∧ a = fr 63 f ∧ f 2 = .pointer (some ⟨b4, 0, none⟩) ∧ f 5 = h5.v ∧ f 6 = h416.v ∧ f 8 = h479.v ∧ f 29 = h209.v ∧ f 30 = .int .i64 (x210.length : Int) ∧ f 31 = .int .i64 x481 ∧ St w0 (imm (rI .i64) h209.v x210 :: ros) (box b4 27 [h2.v] :: row 4 rB h5.v x478 :: row 22 (rS (rI .i64)) h416.v x417 :: row 3 (rI .i64) h479.v x480 :: rs) w) go36 ⟨_, _, _, _, _, rfl, rfl, e27_2, e27_5, rfl, rfl, rfl, rfl, rfl, (hst.pk 5 [3, 3, 1, 0] rfl)⟩ ?_
    clear hst
    rintro _ _ w r36_ ⟨x478, x480, x481, f, h479, rfl, rfl, e36_2, e36_5, e36_6, e36_8, e36_29, e36_30, e36_31, hst⟩ hM36 ho36 Q100036 n36 zz36
    refine seqQ fun Q284 k284 z284 => ?_
    refine wp_region_lit ?_
    refine Y wn rfl (ylss (et rfl e36_31) (et rfl e36_30)) ?_
    refine wpList_nil ?_
    refine k284 _ _ ?_
    refine seqQ fun Q285 k285 z285 => ?_
    rcases iteS hM36 with ⟨c550, hM36⟩ | ⟨c550, hM36⟩
    · refine condT (et rfl rfl) (decide_eq_true c550) ?_
      refine wp_skip ?_
      refine k285 _ _ ?_
      refine seqQ fun Q286 k286 z286 => ?_
      refine blockQ fun Q287 q287 => ?_
      refine seqQ fun Q288 k288 z288 => ?_
      refine wp_region_lit ?_
      obtain ⟨x551, gx551, hM36⟩ := bs hM36
      refine Y wn rfl (yIa SL_22 (et rfl e36_29) (et rfl e36_31) hst (rdI mhF) gx551) ?_
      refine Y wn rfl (yI O_3 (et rfl rfl) hst (rdI mhF) gx551) ?_
      refine Y wn rfl (ya (v := .int .i64 x551) (et rfl rfl)) ?_
      refine wpList_nil ?_
      refine k288 _ _ ?_
      refine seqQ fun Q289 k289 z289 => ?_
      refine wp_region_lit ?_
      refine Y wn rfl (yFb FL_27_0 (et rfl e36_2)) ?_
      refine Y wn rfl (yLb (u := h2.v) O_25 (et rfl rfl) hst mhR rfl) ?_
      refine Y wn rfl (ym (v := .int .i64 x551) (et rfl rfl)) ?_
      obtain ⟨x552, gx552, hM36⟩ := bs hM36
      refine Y wn rfl (yIa SL_25 (et rfl rfl) (et rfl rfl) hst (rdI (mtF q1)) gx552) ?_
      obtain ⟨h553, hst⟩ := iLs hst (mtF q1) gx552
      refine Y wn rfl (yCt O_22 (et rfl rfl) hst (mtF mhF) rfl) ?_
      refine Y wn rfl (yLen SL_22 (et rfl rfl) hst (rdI mhF)) ?_
      refine Y wn rfl (ym (v := .int .i64 0) rfl) ?_
      refine wpList_nil ?_
      refine k289 _ _ ?_
      refine blockQ fun Q290 q290 => ?_
      obtain ⟨o39, go39, hM36⟩ := bs hM36
      have je39_0 : ∀ (x592 : List Bool) (x594 : List Int) (h593 : Hdr) (f : Nat → Value) (w : World), f 2 = .pointer (some ⟨b4, 0, none⟩) → f 5 = h5.v → f 6 = h416.v → f 8 = h593.v → f 29 = h209.v → f 30 = .int .i64 (x210.length : Int) → f 31 = .int .i64 x481 → St w0 (imm (rI .i64) h209.v x210 :: ros) (box b4 27 [h2.v] :: row 4 rB h5.v x592 :: row 22 (rS (rI .i64)) h416.v x417 :: row 3 (rI .i64) h593.v x594 :: rs) w → (x592, x594) = o39 → Q290 (.exit 4) (fr 63 f) w := by
        intro x592 x594 h593 f w eje39_0_2 eje39_0_5 eje39_0_6 eje39_0_8 eje39_0_29 eje39_0_30 eje39_0_31 hst ho
        subst ho
        refine q290 _ _ _ ?_
        refine q287 _ _ _ ?_
        refine k286 _ _ ?_
        refine wp_region_lit ?_
        refine Y wn rfl (yadd (et rfl eje39_0_31) rfl) ?_
        refine Y wn rfl (ym (v := .int .i64 (wa .i64 x481 1)) (et rfl rfl)) ?_
        refine wpList_nil ?_
        obtain rfl := someI hM36
        exact n36 _ _ _ rfl ⟨_, _, _, _, _, rfl, rfl, eje39_0_2, eje39_0_5, eje39_0_6, eje39_0_8, eje39_0_29, eje39_0_30, rfl, hst⟩
      refine loopQ (fun s a w => ∃ (x569 : List Bool) (x571 : List Int) (x572 : Int) (f : Nat → Value) (h570 : Hdr), (x569, x571, x572) = s ∧ a = fr 63 f ∧ f 2 = .pointer (some ⟨b4, 0, none⟩) ∧ f 5 = h5.v ∧ f 6 = h416.v ∧ f 8 = h570.v ∧ f 29 = h209.v ∧ f 30 = .int .i64 (x210.length : Int) ∧ f 31 = .int .i64 x481 ∧ f 39 = h553.v ∧ f 40 = .int .i64 (x552.length : Int) ∧ f 41 = .int .i64 x572 ∧ St w0 (imm (rI .i64) h209.v x210 :: imm (rI .i64) h553.v x552 :: ros) (box b4 27 [h2.v] :: row 4 rB h5.v x569 :: row 22 (rS (rI .i64)) h416.v x417 :: row 3 (rI .i64) h570.v x571 :: rs) w) go39 ⟨_, _, _, _, _, rfl, rfl, e36_2, e36_5, e36_6, e36_8, e36_29, e36_30, e36_31, rfl, rfl, rfl, (hst.facts (allC (mtF (mtF mhF)) (allC mhF (allT (allT (allT allI))))))⟩ ?_
      clear hst
      rintro _ _ w r39_ ⟨x569, x571, x572, f, h570, rfl, rfl, e39_2, e39_5, e39_6, e39_8, e39_29, e39_30, e39_31, e39_39, e39_40, e39_41, hst⟩ hM39 ho39 Q100039 n39 zz39
      refine seqQ fun Q307 k307 z307 => ?_
      refine wp_region_lit ?_
      refine Y wn rfl (ylss (et rfl e39_41) (et rfl e39_40)) ?_
      refine wpList_nil ?_
      refine k307 _ _ ?_
      refine seqQ fun Q308 k308 z308 => ?_
      rcases iteS hM39 with ⟨c595, hM39⟩ | ⟨c595, hM39⟩
      · refine condT (et rfl rfl) (decide_eq_true c595) ?_
        refine wp_skip ?_
        refine k308 _ _ ?_
        refine seqQ fun Q309 k309 z309 => ?_
        refine blockQ fun Q310 q310 => ?_
        refine seqQ fun Q311 k311 z311 => ?_
        refine wp_region_lit ?_
        obtain ⟨x596, gx596, hM39⟩ := bs hM39
        refine Y wn rfl (yIa SL_22 (et rfl e39_39) (et rfl e39_41) hst (rdI (mtF mhF)) gx596) ?_
        refine Y wn rfl (yI O_3 (et rfl rfl) hst (rdI (mtF mhF)) gx596) ?_
        refine Y wn rfl (ya (v := .int .i64 x596) (et rfl rfl)) ?_
        refine wpList_nil ?_
        refine k311 _ _ ?_
        refine seqQ fun Q312 k312 z312 => ?_
        refine wp_region_lit ?_
        refine Y wn rfl (ym (v := h5.v) (et rfl e39_5)) ?_
        refine Y wn rfl (ym (v := .int .i64 x596) (et rfl rfl)) ?_
        obtain ⟨x597, gx597, hM39⟩ := bs hM39
        refine Y wn rfl (yIa SL_54 (et rfl rfl) (et rfl rfl) hst (rdO (mtR mhR)) gx597) ?_
        refine Y wn rfl (yB O_4 (et rfl rfl) hst (rdO (mtR mhR)) gx597) ?_
        refine Y wn rfl (ynot (et rfl rfl)) ?_
        refine wpList_nil ?_
        refine k312 _ _ ?_
        have j40 : ∀ (x602 : List Bool) (x604 : List Int) (h603 : Hdr) (f : Nat → Value) (w : World), f 2 = .pointer (some ⟨b4, 0, none⟩) → f 5 = h5.v → f 6 = h416.v → f 8 = h603.v → f 29 = h209.v → f 30 = .int .i64 (x210.length : Int) → f 31 = .int .i64 x481 → f 39 = h553.v → f 40 = .int .i64 (x552.length : Int) → f 41 = .int .i64 x572 → St w0 (imm (rI .i64) h209.v x210 :: imm (rI .i64) h553.v x552 :: ros) (box b4 27 [h2.v] :: row 4 rB h5.v x602 :: row 22 (rS (rI .i64)) h416.v x417 :: row 3 (rI .i64) h603.v x604 :: rs) w → graph_levels_j40 x572 x602 x604 = some r39_ → Q310 .normal (fr 63 f) w := by
          intro x602 x604 h603 f w ej40_2 ej40_5 ej40_6 ej40_8 ej40_29 ej40_30 ej40_31 ej40_39 ej40_40 ej40_41 hst hM
          refine q310 _ _ _ ?_
          refine k309 _ _ ?_
          refine wp_region_lit ?_
          refine Y wn rfl (yadd (et rfl ej40_41) rfl) ?_
          refine Y wn rfl (ym (v := .int .i64 (wa .i64 x572 1)) (et rfl rfl)) ?_
          refine wpList_nil ?_
          obtain rfl := someI hM
          exact n39 _ _ _ rfl ⟨_, _, _, _, _, rfl, rfl, ej40_2, ej40_5, ej40_6, ej40_8, ej40_29, ej40_30, ej40_31, ej40_39, ej40_40, rfl, hst⟩
        rcases iteS hM39 with ⟨c605, hM39⟩ | ⟨c605, hM39⟩
        · refine condF (et rfl rfl) (nF c605) ?_
          refine wp_skip ?_
          exact j40 _ _ _ _ _ e39_2 e39_5 e39_6 e39_8 e39_29 e39_30 e39_31 e39_39 e39_40 e39_41 hst hM39
        · refine condT (et rfl rfl) (nT (bfalse c605)) ?_
          refine seqQ fun Q314 k314 z314 => ?_
          refine wp_region_lit ?_
          refine Y wn rfl (ym (v := h5.v) (et rfl e39_5)) ?_
          refine Y wn rfl (ym (v := .int .i64 x596) (et rfl rfl)) ?_
          obtain ⟨x606, gx606, hM39⟩ := bs hM39
          refine Y wn rfl (yIs SL_54 (et rfl rfl) (et rfl rfl) hst (rdO (mtR mhR)) gx606) ?_
          replace hst := hst.pk 2 [1, 0] rfl
          refine YT wn rfl (r_sti (cs := [.bool true]) hst O_4 rfl (et rfl rfl) rfl rfl mkB gx606) ?_
          clear hst
          intro w hst
          refine wpList_nil ?_
          refine k314 _ _ ?_
          refine wp_region_lit ?_
          refine Y wn rfl (ym (v := h570.v) (et rfl e39_8)) ?_
          refine Y wn rfl (ym (v := .int .i64 x596) (et rfl rfl)) ?_
          refine YH wn rfl (rLt (n := 1) (l := [x596]) hst SL_22 [.int .i64 x596] (bp1 (et rfl rfl)) rfl rfl (mks1 (cs := [.int .i64 x596]) rfl mkI mks0)) ?_
          clear hst
          intro h607 w hst
          obtain ⟨x609, gx609, hM39⟩ := bs hM39
          replace hst := hst.pk 5 [4, 0, 0, 0, 0] rfl
          refine YH wn rfl (rAp hst SL_22 (et rfl rfl) (et rfl rfl) (rdO (mtR mhR)) gx609) ?_
          clear hst
          intro h608 w hst
          refine Y wn rfl (ya (v := h608.v) (et rfl rfl)) ?_
          refine wpList_nil ?_
          exact j40 _ _ _ _ _ e39_2 e39_5 e39_6 rfl e39_29 e39_30 e39_31 e39_39 e39_40 e39_41 (hst.pk 5 [3, 2, 2, 0] rfl) hM39
      · refine condF (et rfl rfl) (decide_eq_false c595) ?_
        refine wp_exit ?_
        refine z308 _ _ _ rfl ?_
        obtain rfl := someI hM39
        refine zz39 _ _ _ _ rfl rfl ?_
        exact je39_0 _ _ _ _ _ e39_2 e39_5 e39_6 e39_8 e39_29 e39_30 e39_31 (hst.facts (allC mhF (allT (allT allI)))) (ho39 _ rfl)
    · refine condF (et rfl rfl) (decide_eq_false c550) ?_
      refine wp_exit ?_
      refine z285 _ _ _ rfl ?_
      obtain rfl := someI hM36
      refine zz36 _ _ _ _ rfl rfl ?_
      exact je36_0 _ _ _ _ _ e36_2 e36_5 e36_6 e36_8 (hst.facts (allT allI)) (ho36 _ rfl)
  · refine condF (et rfl rfl) (decide_eq_false c414) ?_
    refine wp_exit ?_
    refine z213 _ _ _ rfl ?_
    obtain rfl := someI hM27
    refine zz27 _ _ _ _ rfl rfl ?_
    exact je27_0 _ _ _ _ e27_6 (hst.pk 4 [2] rfl) (ho27 _ rfl)

theorem slices_Grow_int_ok {w0 : World} {ros : List Fact} {rs : List Res} {w : World} {x1 : Int} {out : (List Int)} (hM : slices_Grow_int x1 = some out) (hst : St w0 ros (rs) w) :
    Calls Try.prog 73 #[hnil.v, .int .i64 x1] w (fun e w => ∃ (h100001 : Hdr), e = .returned (h100001.v) ∧ St w0 (ros) (row 3 (rI .i64) h100001.v out :: rs) w) := by
  refine enterQ Try.func73 rfl Try.ntmps73 rfl fun Q hQ => ?_
  refine seqQ fun Q1 k1 z1 => ?_
  refine wp_region_lit ?_
  refine Y wn rfl (ya (v := hnil.v) rfl) ?_
  refine wpList_nil ?_
  refine k1 _ _ ?_
  refine seqQ fun Q2 k2 z2 => ?_
  refine seqQ fun Q3 k3 z3 => ?_
  refine wp_region_lit ?_
  refine Y wn rfl (ym (v := .int .i64 x1) (et rfl rfl)) ?_
  refine Y wn rfl (ylss (et rfl rfl) rfl) ?_
  refine wpList_nil ?_
  refine k3 _ _ ?_
  have j1 : ∀ (f : Nat → Value) (w : World), f 0 = hnil.v → f 1 = .int .i64 x1 → St w0 (ros) (rs) w → slices_Grow_int_j1 x1 = some out → Q2 .normal (fr 27 f) w := by
    intro f w ej1_0 ej1_1 hst hM
    refine k2 _ _ ?_
    refine seqQ fun Q4 k4 z4 => ?_
    refine seqQ fun Q5 k5 z5 => ?_
    refine wp_region_lit ?_
    refine Y wn rfl (ym (v := .int .i64 x1) (et rfl ej1_1)) ?_
    refine Y wn rfl (ym (v := hnil.v) (et rfl ej1_0)) ?_
    refine Y wn rfl (yCapN (by kernel_rfl : Try.prog.underlying 22 = some (.slice 3)) (et rfl rfl)) ?_
    refine Y wn rfl (ym (v := hnil.v) (et rfl ej1_0)) ?_
    refine Y wn rfl (yLen SL_22 (et rfl rfl) hst rdN) ?_
    refine Y wn rfl (ysub (et rfl rfl) (et rfl rfl)) ?_
    refine Y wn rfl (ysub (et rfl rfl) (et rfl rfl)) ?_
    refine Y wn rfl (ya (v := .int .i64 (ws .i64 x1 (ws .i64 0 0))) (et rfl rfl)) ?_
    refine wpList_nil ?_
    refine k5 _ _ ?_
    refine seqQ fun Q6 k6 z6 => ?_
    refine wp_region_lit ?_
    refine Y wn rfl (ym (v := .int .i64 (ws .i64 x1 (ws .i64 0 0))) (et rfl rfl)) ?_
    refine Y wn rfl (ygtr (et rfl rfl) rfl) ?_
    refine wpList_nil ?_
    refine k6 _ _ ?_
    have j2 : ∀ (x7 : List Int) (h6 : Hdr) (f : Nat → Value) (w : World), f 0 = h6.v → St w0 (ros) (row 3 (rI .i64) h6.v x7 :: rs) w → slices_Grow_int_j2 x7 = some out → Q4 .normal (fr 27 f) w := by
      intro x7 h6 f w ej2_0 hst hM
      refine k4 _ _ ?_
      refine seqQ fun Q7 k7 z7 => ?_
      refine wp_region_lit ?_
      refine Y wn rfl (ym (v := h6.v) (et rfl ej2_0)) ?_
      refine Y wn rfl (ya (v := h6.v) (et rfl rfl)) ?_
      refine wpList_nil ?_
      refine k7 _ _ ?_
      refine wp_ret ?_
      obtain rfl := someI hM
      exact hQ _ _ _ (fin1r Try.results73 ⟨rfl, rfl⟩ ⟨_, rfl, hst⟩)
    rcases iteS hM with ⟨c8, hM⟩ | ⟨c8, hM⟩
    · refine condT (et rfl rfl) (decide_eq_true c8) ?_
      refine wp_region_lit ?_
      refine Y wn rfl (ym (v := hnil.v) (et rfl ej1_0)) ?_
      refine Y wn rfl (ym (v := hnil.v) (et rfl ej1_0)) ?_
      refine Y wn rfl (yCapN (by kernel_rfl : Try.prog.underlying 22 = some (.slice 3)) (et rfl rfl)) ?_
      refine Y wn rfl (ySlN SL_22 (et rfl rfl) (et rfl rfl)) ?_
      refine Y wn rfl (ym (v := .int .i64 (ws .i64 x1 (ws .i64 0 0))) (et rfl rfl)) ?_
      obtain ⟨x10, gx10, hM⟩ := bs hM
      refine YH wn rfl (rZn hst SL_22 (by kernel_rfl : Try.prog.underlying 3 = some (.int .i64)) (et rfl rfl) (et rfl rfl) gx10) ?_
      clear hst
      intro h9 w hst
      refine Y wn rfl (ym (v := hnil.v) (et rfl ej1_0)) ?_
      refine Y wn rfl (yLen SL_22 (et rfl rfl) hst rdN) ?_
      obtain ⟨x11, gx11, hM⟩ := bs hM
      refine Y wn rfl (ySl (k1 := .i64) (hi := (0 : Int)) SL_22 (et rfl rfl) hst (rdO mhR) (.inr ⟨rfl, rfl⟩) (.inl (congrArg some (et rfl rfl))) gx11) ?_
      obtain ⟨h12, eh12, hst⟩ := hst.resl gx11
      rw [← eh12]
      refine Y wn rfl (ya (v := h12.v) (et rfl rfl)) ?_
      refine wpList_nil ?_
      exact j2 _ _ _ _ rfl hst hM
    · refine condF (et rfl rfl) (decide_eq_false c8) ?_
      refine wp_skip ?_
      replace hst := hst.rowNh 3 (rI .i64)
      exact j2 _ _ _ _ ej1_0 hst hM
  rcases iteS hM with ⟨c13, hM⟩ | ⟨c13, hM⟩
  · refine condT (et rfl rfl) (decide_eq_true c13) ?_
    cases hM
  · refine condF (et rfl rfl) (decide_eq_false c13) ?_
    refine wp_skip ?_
    exact j1 _ _ rfl rfl hst hM

theorem slices_Concat_int_ok {w0 : World} {ros : List Fact} {rs : List Res} {w : World} {x1 : List (List Int)} {h2 : Hdr} {out : (List Int)} (hM : slices_Concat_int x1 = some out) (q1 : imm (rS (rI .i64)) h2.v x1 ∈ ros) (hst : St w0 ros (rs) w) :
    Calls Try.prog 53 #[h2.v] w (fun e w => ∃ (h100001 : Hdr), e = .returned (h100001.v) ∧ St w0 (ros) (row 3 (rI .i64) h100001.v out :: rs) w) := by
  refine enterQ Try.func53 rfl Try.ntmps53 rfl fun Q hQ => ?_
  refine seqQ fun Q1 k1 z1 => ?_
  refine wp_region_lit ?_
  refine Y wn rfl (ya (v := hnil.v) rfl) ?_
  refine wpList_nil ?_
  refine k1 _ _ ?_
  refine seqQ fun Q2 k2 z2 => ?_
  refine wp_region_lit ?_
  refine Y wn rfl (ya (v := .int .i64 0) rfl) ?_
  refine wpList_nil ?_
  refine k2 _ _ ?_
  refine seqQ fun Q3 k3 z3 => ?_
  refine seqQ fun Q4 k4 z4 => ?_
  refine wp_region_lit ?_
  refine Y wn rfl (ym (v := h2.v) (et rfl rfl)) ?_
  refine Y wn rfl (yLen SL_25 (et rfl rfl) hst (rdI q1)) ?_
  refine Y wn rfl (ym (v := .int .i64 0) rfl) ?_
  refine wpList_nil ?_
  refine k4 _ _ ?_
  refine blockQ fun Q5 q5 => ?_
  obtain ⟨o3, go3, hM⟩ := bs hM
  have je3_0 : ∀ (x15 : Int) (f : Nat → Value) (w : World), f 0 = h2.v → f 3 = .int .i64 x15 → St w0 (ros) (rs) w → x15 = o3 → Q5 (.exit 0) (fr 36 f) w := by
    intro x15 f w eje3_0_0 eje3_0_3 hst ho
    subst ho
    refine q5 _ _ _ ?_
    refine k3 _ _ ?_
    refine seqQ fun Q20 k20 z20 => ?_
    refine wp_region_lit ?_
    refine Y wn rfl (ym (v := .int .i64 x15) (et rfl eje3_0_3)) ?_
    obtain ⟨r16, gr16, hM⟩ := bs hM
    refine Yc wn rfl (yCall FN_73 (a2 rfl (et rfl rfl))) (slices_Grow_int_ok (hM := gr16) (hst := hst) ) ?_
    clear hst
    rintro _ w ⟨h17, rfl, hst⟩
    refine ⟨_, rfl, ?_⟩
    refine Y wn rfl (ya (v := h17.v) (et rfl rfl)) ?_
    refine wpList_nil ?_
    refine k20 _ _ ?_
    refine seqQ fun Q21 k21 z21 => ?_
    refine seqQ fun Q22 k22 z22 => ?_
    refine wp_region_lit ?_
    refine Y wn rfl (ym (v := h2.v) (et rfl eje3_0_0)) ?_
    refine Y wn rfl (yLen SL_25 (et rfl rfl) hst (rdI q1)) ?_
    refine Y wn rfl (ym (v := .int .i64 0) rfl) ?_
    refine wpList_nil ?_
    refine k22 _ _ ?_
    refine blockQ fun Q23 q23 => ?_
    obtain ⟨o4, go4, hM⟩ := bs hM
    have je4_0 : ∀ (x35 : List Int) (h34 : Hdr) (f : Nat → Value) (w : World), f 6 = h34.v → St w0 (ros) (row 3 (rI .i64) h34.v x35 :: rs) w → x35 = o4 → Q23 (.exit 2) (fr 36 f) w := by
      intro x35 h34 f w eje4_0_6 hst ho
      subst ho
      refine q23 _ _ _ ?_
      refine k21 _ _ ?_
      refine seqQ fun Q34 k34 z34 => ?_
      refine wp_region_lit ?_
      refine Y wn rfl (ym (v := h34.v) (et rfl eje4_0_6)) ?_
      refine Y wn rfl (ya (v := h34.v) (et rfl rfl)) ?_
      refine wpList_nil ?_
      refine k34 _ _ ?_
      refine wp_ret ?_
      obtain rfl := someI hM
      exact hQ _ _ _ (fin1r Try.results53 ⟨rfl, rfl⟩ ⟨_, rfl, hst⟩)
    refine loopQ (fun s a w => ∃ (x24 : List Int) (x25 : Int) (f : Nat → Value) (h23 : Hdr), (x24, x25) = s ∧ a = fr 36 f ∧ f 6 = h23.v ∧ f 25 = h2.v ∧ f 26 = .int .i64 (x1.length : Int) ∧ f 27 = .int .i64 x25 ∧ St w0 (ros) (row 3 (rI .i64) h23.v x24 :: rs) w) go4 ⟨_, _, _, _, rfl, rfl, rfl, rfl, rfl, rfl, hst⟩ ?_
    clear hst
    rintro _ _ w r4_ ⟨x24, x25, f, h23, rfl, rfl, e4_6, e4_25, e4_26, e4_27, hst⟩ hM4 ho4 Q100004 n4 zz4
    refine seqQ fun Q35 k35 z35 => ?_
    refine wp_region_lit ?_
    refine Y wn rfl (ylss (et rfl e4_27) (et rfl e4_26)) ?_
    refine wpList_nil ?_
    refine k35 _ _ ?_
    refine seqQ fun Q36 k36 z36 => ?_
    rcases iteS hM4 with ⟨c36, hM4⟩ | ⟨c36, hM4⟩
    · refine condT (et rfl rfl) (decide_eq_true c36) ?_
      refine wp_skip ?_
      refine k36 _ _ ?_
      refine seqQ fun Q37 k37 z37 => ?_
      refine blockQ fun Q38 q38 => ?_
      refine seqQ fun Q39 k39 z39 => ?_
      refine wp_region_lit ?_
      obtain ⟨x37, gx37, hM4⟩ := bs hM4
      refine Y wn rfl (yIa SL_25 (et rfl e4_25) (et rfl e4_27) hst (rdI q1) gx37) ?_
      obtain ⟨h38, hst⟩ := iLs hst q1 gx37
      refine Y wn rfl (yCt O_22 (et rfl rfl) hst (mtF mhF) rfl) ?_
      refine Y wn rfl (ya (v := h38.v) (et rfl rfl)) ?_
      refine wpList_nil ?_
      refine k39 _ _ ?_
      refine wp_region_lit ?_
      refine Y wn rfl (ym (v := h23.v) (et rfl e4_6)) ?_
      refine Y wn rfl (ym (v := h38.v) (et rfl rfl)) ?_
      obtain ⟨x40, gx40, hM4⟩ := bs hM4
      refine YH wn rfl (rAp hst SL_22 (et rfl rfl) (et rfl rfl) (rdI mhF) gx40) ?_
      clear hst
      intro h39 w hst
      refine Y wn rfl (ya (v := h39.v) (et rfl rfl)) ?_
      refine wpList_nil ?_
      refine q38 _ _ _ ?_
      refine k37 _ _ ?_
      refine wp_region_lit ?_
      refine Y wn rfl (yadd (et rfl e4_27) rfl) ?_
      refine Y wn rfl (ym (v := .int .i64 (wa .i64 x25 1)) (et rfl rfl)) ?_
      refine wpList_nil ?_
      obtain rfl := someI hM4
      exact n4 _ _ _ rfl ⟨_, _, _, _, rfl, rfl, rfl, e4_25, e4_26, rfl, (hst.facts (allT (allT allI)))⟩
    · refine condF (et rfl rfl) (decide_eq_false c36) ?_
      refine wp_exit ?_
      refine z36 _ _ _ rfl ?_
      obtain rfl := someI hM4
      refine zz4 _ _ _ _ rfl rfl ?_
      exact je4_0 _ _ _ _ e4_6 hst (ho4 _ rfl)
  refine loopQ (fun s a w => ∃ (x7 : Int) (x8 : Int) (f : Nat → Value), (x7, x8) = s ∧ a = fr 36 f ∧ f 0 = h2.v ∧ f 3 = .int .i64 x7 ∧ f 9 = h2.v ∧ f 10 = .int .i64 (x1.length : Int) ∧ f 11 = .int .i64 x8 ∧ St w0 (ros) (rs) w) go3 ⟨_, _, _, rfl, rfl, rfl, rfl, rfl, rfl, rfl, hst⟩ ?_
  clear hst
  rintro _ _ w r3_ ⟨x7, x8, f, rfl, rfl, e3_0, e3_3, e3_9, e3_10, e3_11, hst⟩ hM3 ho3 Q100003 n3 zz3
  refine seqQ fun Q40 k40 z40 => ?_
  refine wp_region_lit ?_
  refine Y wn rfl (ylss (et rfl e3_11) (et rfl e3_10)) ?_
  refine wpList_nil ?_
  refine k40 _ _ ?_
  refine seqQ fun Q41 k41 z41 => ?_
  rcases iteS hM3 with ⟨c41, hM3⟩ | ⟨c41, hM3⟩
  · refine condT (et rfl rfl) (decide_eq_true c41) ?_
    refine wp_skip ?_
    refine k41 _ _ ?_
    refine seqQ fun Q42 k42 z42 => ?_
    refine blockQ fun Q43 q43 => ?_
    refine seqQ fun Q44 k44 z44 => ?_
    refine wp_region_lit ?_
    obtain ⟨x42, gx42, hM3⟩ := bs hM3
    refine Y wn rfl (yIa SL_25 (et rfl e3_9) (et rfl e3_11) hst (rdI q1) gx42) ?_
    obtain ⟨h43, hst⟩ := iLs hst q1 gx42
    refine Y wn rfl (yCt O_22 (et rfl rfl) hst (mtF mhF) rfl) ?_
    refine Y wn rfl (ya (v := h43.v) (et rfl rfl)) ?_
    refine wpList_nil ?_
    refine k44 _ _ ?_
    refine seqQ fun Q45 k45 z45 => ?_
    refine wp_region_lit ?_
    refine Y wn rfl (ym (v := .int .i64 x7) (et rfl e3_3)) ?_
    refine Y wn rfl (ym (v := h43.v) (et rfl rfl)) ?_
    refine Y wn rfl (yLen SL_22 (et rfl rfl) hst (rdI mhF)) ?_
    refine Y wn rfl (yadd (et rfl rfl) (et rfl rfl)) ?_
    refine Y wn rfl (ya (v := .int .i64 (wa .i64 x7 (x42.length : Int))) (et rfl rfl)) ?_
    refine wpList_nil ?_
    refine k45 _ _ ?_
    refine seqQ fun Q46 k46 z46 => ?_
    refine wp_region_lit ?_
    refine Y wn rfl (ym (v := .int .i64 (wa .i64 x7 (x42.length : Int))) (et rfl rfl)) ?_
    refine Y wn rfl (ylss (et rfl rfl) rfl) ?_
    refine wpList_nil ?_
    refine k46 _ _ ?_
    have j5 : ∀ (f : Nat → Value) (w : World), f 0 = h2.v → f 3 = .int .i64 (wa .i64 x7 (x42.length : Int)) → f 9 = h2.v → f 10 = .int .i64 (x1.length : Int) → f 11 = .int .i64 x8 → St w0 (ros) (rs) w → slices_Concat_int_j5 x7 x42 x8 = some r3_ → Q43 .normal (fr 36 f) w := by
      intro f w ej5_0 ej5_3 ej5_9 ej5_10 ej5_11 hst hM
      refine q43 _ _ _ ?_
      refine k42 _ _ ?_
      refine wp_region_lit ?_
      refine Y wn rfl (yadd (et rfl ej5_11) rfl) ?_
      refine Y wn rfl (ym (v := .int .i64 (wa .i64 x8 1)) (et rfl rfl)) ?_
      refine wpList_nil ?_
      obtain rfl := someI hM
      exact n3 _ _ _ rfl ⟨_, _, _, rfl, rfl, ej5_0, ej5_3, ej5_9, ej5_10, rfl, hst⟩
    rcases iteS hM3 with ⟨c44, hM3⟩ | ⟨c44, hM3⟩
    · refine condT (et rfl rfl) (decide_eq_true c44) ?_
      cases hM3
    · refine condF (et rfl rfl) (decide_eq_false c44) ?_
      refine wp_skip ?_
      exact j5 _ _ e3_0 rfl e3_9 e3_10 e3_11 (hst.facts (allT (allT allI))) hM3
  · refine condF (et rfl rfl) (decide_eq_false c41) ?_
    refine wp_exit ?_
    refine z41 _ _ _ rfl ?_
    obtain rfl := someI hM3
    refine zz3 _ _ _ _ rfl rfl ?_
    exact je3_0 _ _ _ e3_0 e3_3 hst (ho3 _ rfl)

theorem graph_Components_ok {w0 : World} {ros : List Fact} {rs : List Res} {w : World} {x1 : List (List Int)} {h2 : Hdr} {out : (List (List Int))} (hM : graph_Components x1 = some out) (q1 : imm (rS (rI .i64)) h2.v x1 ∈ ros) (hst : St w0 ros (rs) w) :
    Calls Try.prog 33 #[.agg #[h2.v]] w (fun e w => ∃ (h100001 : Hdr), e = .returned (h100001.v) ∧ St w0 (ros) (row 22 (rS (rI .i64)) h100001.v out :: rs) w) := by
  refine enterQ Try.func33 rfl Try.ntmps33 rfl fun Q hQ => ?_
  refine seqQ fun Q1 k1 z1 => ?_
  refine wp_region_lit ?_
  refine YB wn rfl (r_box (vals := [h2.v]) hst (et rfl rfl) rfl) ?_
  clear hst
  intro b3 w hst
  refine Y wn rfl (ya (v := hnil.v) rfl) ?_
  refine wpList_nil ?_
  refine k1 _ _ ?_
  refine seqQ fun Q2 k2 z2 => ?_
  refine seqQ fun Q3 k3 z3 => ?_
  refine wp_region_lit ?_
  refine Y wn rfl (yLbs (us := [h2.v]) ST_27 (et rfl rfl) hst mhR rfl rfl) ?_
  obtain ⟨r4, gr4, hM⟩ := bs hM
  refine Yc wn rfl (yCall FN_37 (a1 (et rfl rfl))) (graph_Check_ok (hM := gr4) (hst := hst) (q1 := q1)) ?_
  clear hst
  rintro _ w ⟨rfl, hst⟩
  refine ⟨_, rfl, ?_⟩
  refine Y wn rfl (yneq (et rfl rfl) rfl) ?_
  refine wpList_nil ?_
  refine k3 _ _ ?_
  rcases iteS hM with ⟨c5, hM⟩ | ⟨c5, hM⟩
  · refine condF (et rfl rfl) (nF (decide_eq_true c5)) ?_
    refine wp_skip ?_
    refine k2 _ _ ?_
    refine seqQ fun Q4 k4 z4 => ?_
    refine wp_region_lit ?_
    refine Y wn rfl (yFb FL_27_0 (et rfl rfl)) ?_
    refine Y wn rfl (yLb (u := h2.v) O_25 (et rfl rfl) hst mhR rfl) ?_
    refine Y wn rfl (yLen SL_25 (et rfl rfl) hst (rdI q1)) ?_
    obtain ⟨x8, gx8, hM⟩ := bs hM
    refine YH wn rfl (rMk hst SL_54 (et rfl rfl) gx8) ?_
    clear hst
    intro h6 w hst
    refine Y wn rfl (ya (v := h6.v) (et rfl rfl)) ?_
    refine wpList_nil ?_
    refine k4 _ _ ?_
    refine seqQ fun Q5 k5 z5 => ?_
    refine wp_region_lit ?_
    refine Y wn rfl (ya (v := hnil.v) rfl) ?_
    refine wpList_nil ?_
    refine k5 _ _ ?_
    refine seqQ fun Q6 k6 z6 => ?_
    refine seqQ fun Q7 k7 z7 => ?_
    refine wp_region_lit ?_
    refine Y wn rfl (yFb FL_27_0 (et rfl rfl)) ?_
    refine Y wn rfl (yLb (u := h2.v) O_25 (et rfl rfl) hst (mtR mhR) rfl) ?_
    refine Y wn rfl (yLen SL_25 (et rfl rfl) hst (rdI q1)) ?_
    refine Y wn rfl (ym (v := .int .i64 0) rfl) ?_
    refine wpList_nil ?_
    refine k7 _ _ ?_
    refine blockQ fun Q8 q8 => ?_
    obtain ⟨o9, go9, hM⟩ := bs hM
    have je9_0 : ∀ (x170 : List (List Int)) (h169 : Hdr) (f : Nat → Value) (w : World), f 4 = h169.v → St w0 (ros) (row 22 (rS (rI .i64)) h169.v x170 :: rs) w → x170 = o9 → Q8 (.exit 0) (fr 48 f) w := by
      intro x170 h169 f w eje9_0_4 hst ho
      subst ho
      refine q8 _ _ _ ?_
      refine k6 _ _ ?_
      refine seqQ fun Q159 k159 z159 => ?_
      refine wp_region_lit ?_
      refine Y wn rfl (ym (v := h169.v) (et rfl eje9_0_4)) ?_
      refine Y wn rfl (ya (v := h169.v) (et rfl rfl)) ?_
      refine wpList_nil ?_
      refine k159 _ _ ?_
      refine wp_ret ?_
      obtain rfl := someI hM
      exact hQ _ _ _ (fin1r Try.results33 ⟨rfl, rfl⟩ ⟨_, rfl, hst⟩)
    replace hst := hst.rowNh 22 (rS (rI .i64))
    refine loopQ (fun s a w => ∃ (x85 : List Bool) (x87 : List (List Int)) (x88 : Int) (f : Nat → Value) (h86 : Hdr), (x85, x87, x88) = s ∧ a = fr 48 f ∧ f 1 = .pointer (some ⟨b3, 0, none⟩) ∧ f 3 = h6.v ∧ f 4 = h86.v ∧ f 18 = .int .i64 (x1.length : Int) ∧ f 19 = .int .i64 x88 ∧ St w0 (ros) (box b3 27 [h2.v] :: row 4 rB h6.v x85 :: row 22 (rS (rI .i64)) h86.v x87 :: rs) w) go9 ⟨_, _, _, _, _, rfl, rfl, rfl, rfl, rfl, rfl, rfl, (hst.pk 3 [2, 1, 0] rfl)⟩ ?_
    clear hst
    rintro _ _ w r9_ ⟨x85, x87, x88, f, h86, rfl, rfl, e9_1, e9_3, e9_4, e9_18, e9_19, hst⟩ hM9 ho9 Q100009 n9 zz9
    refine seqQ fun Q160 k160 z160 => ?_
    refine wp_region_lit ?_
    refine Y wn rfl (ylss (et rfl e9_19) (et rfl e9_18)) ?_
    refine wpList_nil ?_
    refine k160 _ _ ?_
    refine seqQ fun Q161 k161 z161 => ?_
    rcases iteS hM9 with ⟨c171, hM9⟩ | ⟨c171, hM9⟩
    · refine condT (et rfl rfl) (decide_eq_true c171) ?_
      refine wp_skip ?_
      refine k161 _ _ ?_
      refine seqQ fun Q162 k162 z162 => ?_
      have j12 : ∀ (x220 : List Bool) (x222 : List (List Int)) (h221 : Hdr) (f : Nat → Value) (w : World), f 1 = .pointer (some ⟨b3, 0, none⟩) → f 3 = h6.v → f 4 = h221.v → f 18 = .int .i64 (x1.length : Int) → f 19 = .int .i64 x88 → St w0 (ros) (box b3 27 [h2.v] :: row 4 rB h6.v x220 :: row 22 (rS (rI .i64)) h221.v x222 :: rs) w → graph_Components_j12 x88 x220 x222 = some r9_ → Q162 .normal (fr 48 f) w := by
        intro x220 x222 h221 f w ej12_1 ej12_3 ej12_4 ej12_18 ej12_19 hst hM
        refine k162 _ _ ?_
        refine wp_region_lit ?_
        refine Y wn rfl (yadd (et rfl ej12_19) rfl) ?_
        refine Y wn rfl (ym (v := .int .i64 (wa .i64 x88 1)) (et rfl rfl)) ?_
        refine wpList_nil ?_
        obtain rfl := someI hM
        exact n9 _ _ _ rfl ⟨_, _, _, _, _, rfl, rfl, ej12_1, ej12_3, ej12_4, ej12_18, rfl, hst⟩
      refine blockQ fun Q211 q211 => ?_
      refine seqQ fun Q212 k212 z212 => ?_
      refine wp_region_lit ?_
      refine Y wn rfl (ym (v := .int .i64 x88) (et rfl e9_19)) ?_
      refine Y wn rfl (ya (v := .int .i64 x88) (et rfl rfl)) ?_
      refine wpList_nil ?_
      refine k212 _ _ ?_
      refine seqQ fun Q213 k213 z213 => ?_
      refine seqQ fun Q214 k214 z214 => ?_
      refine wp_region_lit ?_
      refine Y wn rfl (ym (v := h6.v) (et rfl e9_3)) ?_
      refine Y wn rfl (ym (v := .int .i64 x88) (et rfl rfl)) ?_
      obtain ⟨x223, gx223, hM9⟩ := bs hM9
      refine Y wn rfl (yIa SL_54 (et rfl rfl) (et rfl rfl) hst (rdO (mtR mhR)) gx223) ?_
      refine Y wn rfl (yB O_4 (et rfl rfl) hst (rdO (mtR mhR)) gx223) ?_
      refine wpList_nil ?_
      refine k214 _ _ ?_
      rcases iteS hM9 with ⟨c224, hM9⟩ | ⟨c224, hM9⟩
      · refine condT (et rfl rfl) c224 ?_
        refine wp_exit ?_
        refine z213 _ _ _ rfl ?_
        refine q211 _ _ _ ?_
        exact j12 _ _ _ _ _ e9_1 e9_3 e9_4 e9_18 e9_19 hst hM9
      · refine condF (et rfl rfl) (bfalse c224) ?_
        refine wp_skip ?_
        refine k213 _ _ ?_
        refine seqQ fun Q215 k215 z215 => ?_
        refine wp_region_lit ?_
        refine Y wn rfl (yLbs (us := [h2.v]) ST_27 (et rfl e9_1) hst mhR rfl rfl) ?_
        refine Y wn rfl (ym (v := .int .i64 x88) (et rfl rfl)) ?_
        obtain ⟨r225, gr225, hM9⟩ := bs hM9
        refine Yc wn rfl (yCall FN_54 (a2 (et rfl rfl) (et rfl rfl))) (graph_levels_ok (hM := gr225) (hst := hst) (q1 := q1)) ?_
        clear hst
        rintro _ w ⟨h226, rfl, hst⟩
        refine ⟨_, rfl, ?_⟩
        obtain ⟨r227, gr227, hM9⟩ := bs hM9
        replace hst := hst.fz
        refine Yc wn rfl (yCall FN_53 (a1 (et rfl rfl))) (slices_Concat_int_ok (hM := gr227) (hst := hst) (q1 := mhF)) ?_
        clear hst
        rintro _ w ⟨h228, rfl, hst⟩
        refine ⟨_, rfl, ?_⟩
        refine Y wn rfl (ya (v := h228.v) (et rfl rfl)) ?_
        refine wpList_nil ?_
        refine k215 _ _ ?_
        refine seqQ fun Q216 k216 z216 => ?_
        refine wp_region_lit ?_
        refine Y wn rfl (ym (v := h228.v) (et rfl rfl)) ?_
        obtain ⟨r229, gr229, hM9⟩ := bs hM9
        refine Yc wn rfl (yCall FN_55 (a1 (et rfl rfl))) (slices_Sort_int_ok (hM := gr229) (hst := hst) ) ?_
        clear hst
        rintro _ w ⟨rfl, hst⟩
        refine ⟨_, rfl, ?_⟩
        refine wpList_nil ?_
        refine k216 _ _ ?_
        refine seqQ fun Q217 k217 z217 => ?_
        refine seqQ fun Q218 k218 z218 => ?_
        refine wp_region_lit ?_
        refine Y wn rfl (ym (v := h228.v) (et rfl rfl)) ?_
        refine Y wn rfl (yLen SL_22 (et rfl rfl) hst (rdO mhR)) ?_
        refine Y wn rfl (ym (v := .int .i64 0) rfl) ?_
        refine wpList_nil ?_
        refine k218 _ _ ?_
        refine blockQ fun Q219 q219 => ?_
        obtain ⟨o13, go13, hM9⟩ := bs hM9
        have je13_0 : ∀ (x240 : List Bool) (f : Nat → Value) (w : World), f 1 = .pointer (some ⟨b3, 0, none⟩) → f 3 = h6.v → f 4 = h86.v → f 6 = h228.v → f 18 = .int .i64 (x1.length : Int) → f 19 = .int .i64 x88 → St w0 (ros) (box b3 27 [h2.v] :: row 4 rB h6.v x240 :: row 22 (rS (rI .i64)) h86.v x87 :: row 3 (rI .i64) h228.v r229 :: rs) w → x240 = o13 → Q219 (.exit 2) (fr 48 f) w := by
          intro x240 f w eje13_0_1 eje13_0_3 eje13_0_4 eje13_0_6 eje13_0_18 eje13_0_19 hst ho
          subst ho
          refine q219 _ _ _ ?_
          refine k217 _ _ ?_
          refine wp_region_lit ?_
          refine Y wn rfl (ym (v := h86.v) (et rfl eje13_0_4)) ?_
          refine Y wn rfl (ym (v := h228.v) (et rfl eje13_0_6)) ?_
          replace hst := hst.pk 4 [3, 0, 0, 0] rfl
          replace hst := hst.fz
          refine YH wn rfl (rLt (n := 1) (l := [r229]) hst SL_25 [h228.v] (bp1 (et rfl rfl)) rfl rfl (mks1 (cs := [h228.v]) rfl (mkS mhF) mks0)) ?_
          clear hst
          intro h241 w hst
          obtain ⟨x243, gx243, hM9⟩ := bs hM9
          replace hst := hst.pk 4 [3, 0, 0, 0] rfl
          refine YH wn rfl (rAp hst SL_25 (et rfl rfl) (et rfl rfl) (rdO (mtR mhR)) gx243) ?_
          clear hst
          intro h242 w hst
          refine Y wn rfl (ya (v := h242.v) (et rfl rfl)) ?_
          refine wpList_nil ?_
          refine q211 _ _ _ ?_
          exact j12 _ _ _ _ _ eje13_0_1 eje13_0_3 rfl eje13_0_18 eje13_0_19 ((hst.pk 4 [2, 2, 0] rfl).facts (allT allI)) hM9
        refine loopQ (fun s a w => ∃ (x233 : List Bool) (x234 : Int) (f : Nat → Value), (x233, x234) = s ∧ a = fr 48 f ∧ f 1 = .pointer (some ⟨b3, 0, none⟩) ∧ f 3 = h6.v ∧ f 4 = h86.v ∧ f 6 = h228.v ∧ f 18 = .int .i64 (x1.length : Int) ∧ f 19 = .int .i64 x88 ∧ f 32 = h228.v ∧ f 33 = .int .i64 (r229.length : Int) ∧ f 34 = .int .i64 x234 ∧ St w0 (ros) (box b3 27 [h2.v] :: row 4 rB h6.v x233 :: row 22 (rS (rI .i64)) h86.v x87 :: row 3 (rI .i64) h228.v r229 :: rs) w) go13 ⟨_, _, _, rfl, rfl, e9_1, e9_3, e9_4, rfl, e9_18, e9_19, rfl, rfl, rfl, ((hst.pk 4 [1, 1, 1, 0] rfl).facts (allT allI))⟩ ?_
        clear hst
        rintro _ _ w r13_ ⟨x233, x234, f, rfl, rfl, e13_1, e13_3, e13_4, e13_6, e13_18, e13_19, e13_32, e13_33, e13_34, hst⟩ hM13 ho13 Q100013 n13 zz13
        refine seqQ fun Q230 k230 z230 => ?_
        refine wp_region_lit ?_
        refine Y wn rfl (ylss (et rfl e13_34) (et rfl e13_33)) ?_
        refine wpList_nil ?_
        refine k230 _ _ ?_
        refine seqQ fun Q231 k231 z231 => ?_
        rcases iteS hM13 with ⟨c244, hM13⟩ | ⟨c244, hM13⟩
        · refine condT (et rfl rfl) (decide_eq_true c244) ?_
          refine wp_skip ?_
          refine k231 _ _ ?_
          refine seqQ fun Q232 k232 z232 => ?_
          refine blockQ fun Q233 q233 => ?_
          refine seqQ fun Q234 k234 z234 => ?_
          refine wp_region_lit ?_
          obtain ⟨x245, gx245, hM13⟩ := bs hM13
          refine Y wn rfl (yIa SL_22 (et rfl e13_32) (et rfl e13_34) hst (rdO (mtR (mtR (mtR mhR)))) gx245) ?_
          refine Y wn rfl (yI O_3 (et rfl rfl) hst (rdO (mtR (mtR (mtR mhR)))) gx245) ?_
          refine Y wn rfl (ya (v := .int .i64 x245) (et rfl rfl)) ?_
          refine wpList_nil ?_
          refine k234 _ _ ?_
          refine wp_region_lit ?_
          refine Y wn rfl (ym (v := h6.v) (et rfl e13_3)) ?_
          refine Y wn rfl (ym (v := .int .i64 x245) (et rfl rfl)) ?_
          obtain ⟨x246, gx246, hM13⟩ := bs hM13
          refine Y wn rfl (yIs SL_54 (et rfl rfl) (et rfl rfl) hst (rdO (mtR mhR)) gx246) ?_
          replace hst := hst.pk 2 [1, 0] rfl
          refine YT wn rfl (r_sti (cs := [.bool true]) hst O_4 rfl (et rfl rfl) rfl rfl mkB gx246) ?_
          clear hst
          intro w hst
          refine wpList_nil ?_
          refine q233 _ _ _ ?_
          refine k232 _ _ ?_
          refine wp_region_lit ?_
          refine Y wn rfl (yadd (et rfl e13_34) rfl) ?_
          refine Y wn rfl (ym (v := .int .i64 (wa .i64 x234 1)) (et rfl rfl)) ?_
          refine wpList_nil ?_
          obtain rfl := someI hM13
          exact n13 _ _ _ rfl ⟨_, _, _, rfl, rfl, e13_1, e13_3, e13_4, e13_6, e13_18, e13_19, e13_32, e13_33, rfl, (hst.pk 4 [1, 0, 0, 0] rfl)⟩
        · refine condF (et rfl rfl) (decide_eq_false c244) ?_
          refine wp_exit ?_
          refine z231 _ _ _ rfl ?_
          obtain rfl := someI hM13
          refine zz13 _ _ _ _ rfl rfl ?_
          exact je13_0 _ _ _ e13_1 e13_3 e13_4 e13_6 e13_18 e13_19 hst (ho13 _ rfl)
    · refine condF (et rfl rfl) (decide_eq_false c171) ?_
      refine wp_exit ?_
      refine z161 _ _ _ rfl ?_
      obtain rfl := someI hM9
      refine zz9 _ _ _ _ rfl rfl ?_
      exact je9_0 _ _ _ _ e9_4 (hst.pk 3 [2] rfl) (ho9 _ rfl)
  · refine condT (et rfl rfl) (nT (decide_eq_false c5)) ?_
    refine seqQ fun Q235 k235 z235 => ?_
    refine wp_region_lit ?_
    refine Y wn rfl (ya (v := hnil.v) rfl) ?_
    refine wpList_nil ?_
    refine k235 _ _ ?_
    refine wp_ret ?_
    refine z2 _ _ _ rfl ?_
    obtain rfl := someI hM
    replace hst := hst.rowNh 22 (rS (rI .i64))
    exact hQ _ _ _ (fin1r Try.results33 ⟨rfl, rfl⟩ ⟨_, rfl, (hst.pk 2 [0] rfl)⟩)
end Go.Proofs.Ytoelidgkfpmgnaa
