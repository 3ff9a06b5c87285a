/- Walks: each function computes its model, printed. -/
import Derived.Test.YtoelidgkfpmgnaaW2
namespace Go.Proofs.Ytoelidgkfpmgnaa
open Go Sx M
set_option maxRecDepth 100000
set_option maxHeartbeats 400000
set_option linter.unusedVariables false
attribute [local irreducible] wpList Code.wp Calls DR QR QS LA LS St
theorem sparselaw19_EtreeMade_ok {w0 : World} {ros : List Fact} {rs : List Res} {w : World} {x1 : Int} {x2 : List Int} {h3 : Hdr} {out : Bool} (hM : sparselaw19_EtreeMade x1 x2 = some out) (q1 : imm (rI .i64) h3.v x2 ∈ ros) (hst : St w0 ros (rs) w) :
    Calls Try.prog 5 #[.int .i64 x1, h3.v] w (fun e w => e = .returned (.bool out) ∧ St w0 (ros) (rs) w) := by
  refine enterQ Try.func5 rfl Try.ntmps5 rfl fun Q hQ => ?_
  refine seqQ fun Q1 k1 z1 => ?_
  refine wp_region_lit ?_
  refine Y wn rfl (ya (v := .bool false) rfl) ?_
  refine wpList_nil ?_
  refine k1 _ _ ?_
  refine seqQ fun Q2 k2 z2 => ?_
  refine seqQ fun Q3 k3 z3 => ?_
  refine wp_region_lit ?_
  refine Y wn rfl (ym (v := h3.v) (et rfl rfl)) ?_
  refine Y wn rfl (yLen SL_22 (et rfl rfl) hst (rdI q1)) ?_
  refine Y wn rfl (ygtr (et rfl rfl) rfl) ?_
  refine wpList_nil ?_
  refine k3 _ _ ?_
  rcases iteS hM with ⟨c4, hM⟩ | ⟨c4, hM⟩
  · refine condT (et rfl rfl) (decide_eq_true c4) ?_
    refine seqQ fun Q4 k4 z4 => ?_
    refine wp_region_lit ?_
    obtain ⟨r5, gr5, hM⟩ := bs hM
    refine Yc wn rfl (yCall FN_10 a0) (sparselaw19_awake_ok (hM := gr5) (hst := hst) ) ?_
    clear hst
    rintro _ w ⟨rfl, hst⟩
    refine ⟨_, rfl, ?_⟩
    refine Y wn rfl (ya (v := .bool r5) (et rfl rfl)) ?_
    refine wpList_nil ?_
    refine k4 _ _ ?_
    refine wp_ret ?_
    refine z2 _ _ _ rfl ?_
    obtain rfl := someI hM
    exact hQ _ _ _ (fin1r Try.results5 ⟨rfl, rfl⟩ ⟨rfl, hst⟩)
  · refine condF (et rfl rfl) (decide_eq_false c4) ?_
    refine wp_skip ?_
    refine k2 _ _ ?_
    refine seqQ fun Q5 k5 z5 => ?_
    refine wp_region_lit ?_
    refine Y wn rfl (ym (v := .int .i64 x1) (et rfl rfl)) ?_
    obtain ⟨r6, gr6, hM⟩ := bs hM
    refine Yc wn rfl (yCall FN_11 (a2 (et rfl rfl) rfl)) (sparsekit_Place_ok (hM := gr6) (hst := hst) ) ?_
    clear hst
    rintro _ w ⟨rfl, hst⟩
    refine ⟨_, rfl, ?_⟩
    refine Y wn rfl (ym (v := h3.v) (et rfl rfl)) ?_
    obtain ⟨r7, gr7, hM⟩ := bs hM
    refine Yc wn rfl (yCall FN_12 (a2 (et rfl rfl) (et rfl rfl))) (sparsemake_Graph_ok (hM := gr7) (hst := hst) (q1 := q1)) ?_
    clear hst
    rintro _ w ⟨h8, rfl, hst⟩
    refine ⟨_, rfl, ?_⟩
    refine YB wn rfl (rAl hst ZT_27) ?_
    clear hst
    intro b9 w hst
    refine YT wn rfl (r_stbn (vals' := [h8.v]) (us := [h8.v]) hst ST_27 (et rfl rfl) (et rfl rfl) rfl rfl (one_of rfl) rfl) ?_
    clear hst
    intro w hst
    refine wpList_nil ?_
    refine k5 _ _ ?_
    refine seqQ fun Q6 k6 z6 => ?_
    refine wp_region_lit ?_
    refine Y wn rfl (yLbs (us := [h8.v]) ST_27 (et rfl rfl) hst mhR rfl rfl) ?_
    obtain ⟨r10, gr10, hM⟩ := bs hM
    replace hst := hst.pk 2 [1, 0] rfl
    replace hst := hst.fz
    refine Yc wn rfl (yCall FN_13 (a1 (et rfl rfl))) (etree_Parent_ok (hM := gr10) (hst := hst) (q1 := mhF)) ?_
    clear hst
    rintro _ w ⟨h11, rfl, hst⟩
    refine ⟨_, rfl, ?_⟩
    refine Y wn rfl (ym (v := .tuple #[h11.v, .int .i64 r10.2]) (et rfl rfl)) ?_
    refine Y wn rfl (yx (v := h11.v) (et rfl rfl) rfl) ?_
    refine Y wn rfl (yx (v := .int .i64 r10.2) (et rfl rfl) rfl) ?_
    refine Y wn rfl (ya (v := h11.v) (et rfl rfl)) ?_
    refine Y wn rfl (ya (v := .int .i64 r10.2) (et rfl rfl)) ?_
    refine wpList_nil ?_
    refine k6 _ _ ?_
    refine seqQ fun Q7 k7 z7 => ?_
    refine wp_region_lit ?_
    refine Y wn rfl (yLbs (us := [h8.v]) ST_27 (et rfl rfl) hst (mtR mhR) rfl rfl) ?_
    obtain ⟨r12, gr12, hM⟩ := bs hM
    refine Yc wn rfl (yCall FN_24 (a1 (et rfl rfl))) (sparseref19_Parent_ok (hM := gr12) (hst := hst) (q1 := mhF)) ?_
    clear hst
    rintro _ w ⟨h13, rfl, hst⟩
    refine ⟨_, rfl, ?_⟩
    refine Y wn rfl (ym (v := .tuple #[h13.v, .int .i64 r12.2]) (et rfl rfl)) ?_
    refine Y wn rfl (yx (v := h13.v) (et rfl rfl) rfl) ?_
    refine Y wn rfl (yx (v := .int .i64 r12.2) (et rfl rfl) rfl) ?_
    refine Y wn rfl (ya (v := h13.v) (et rfl rfl)) ?_
    refine Y wn rfl (ya (v := .int .i64 r12.2) (et rfl rfl)) ?_
    refine wpList_nil ?_
    refine k7 _ _ ?_
    refine seqQ fun Q8 k8 z8 => ?_
    refine seqQ fun Q9 k9 z9 => ?_
    refine wp_region_lit ?_
    refine Y wn rfl (ym (v := .int .i64 r10.2) (et rfl rfl)) ?_
    refine Y wn rfl (yneq (et rfl rfl) rfl) ?_
    refine Y wn rfl (ym (v := .bool (!(decide (r10.2 = 0)))) (et rfl rfl)) ?_
    obtain ⟨r15, gr15, hM⟩ := bs hM
    refine joinW 5 (fun f w => f 6 = h11.v ∧ f 8 = h13.v ∧ f 47 = .bool r15 ∧ St w0 (imm (rI .i64) h11.v r10.1 :: imm (rI .i64) h13.v r12.1 :: ros) (rs) w) (fun j1 => ?_) ?_
    · rcases iteS gr15 with ⟨c17, gr15⟩ | ⟨c17, gr15⟩
      · refine Y (wg rfl rfl rfl (nF (decide_eq_true c17))) rfl (ym (v := h11.v) (et rfl rfl)) ?_
        refine Y (wg rfl rfl rfl (nF (decide_eq_true c17))) rfl (ym (v := h13.v) (et rfl rfl)) ?_
        obtain ⟨r18, gr18, gr15⟩ := bs gr15
        replace hst := hst.pk 2 [1, 0] rfl
        replace hst := hst.fz
        replace hst := hst.fz
        refine Yc (wg rfl rfl rfl (nF (decide_eq_true c17))) rfl (yCall FN_23 (a2 (et rfl rfl) (et rfl rfl))) (sparsekit_Ints_ok (hM := gr18) (hst := hst) (q1 := (mtF mhF)) (q2 := mhF)) ?_
        clear hst
        rintro _ w ⟨rfl, hst⟩
        refine ⟨_, rfl, ?_⟩
        refine Y (wg rfl rfl rfl (nF (decide_eq_true c17))) rfl (ynot (et rfl rfl)) ?_
        refine Y wn rfl (ypf (v := .bool (!(r18))) (et rfl rfl) (nF (decide_eq_true c17)) (et rfl rfl)) ?_
        obtain rfl := someI gr15
        exact j1 _ _ ⟨rfl, rfl, rfl, ((hst.pk 1 [] rfl).facts (allC (mtF mhF) (allC mhF (allT (allT (allT allI))))))⟩
      · refine Gn (wx rfl rfl rfl (nT (decide_eq_false c17))) rfl ?_
        refine Gn (wx rfl rfl rfl (nT (decide_eq_false c17))) rfl ?_
        refine Gn (wx rfl rfl rfl (nT (decide_eq_false c17))) rfl ?_
        refine Gn (wx rfl rfl rfl (nT (decide_eq_false c17))) rfl ?_
        refine Y wn rfl (ypt (v := .bool true) (et rfl rfl) (nT (decide_eq_false c17)) rfl) ?_
        obtain rfl := someI gr15
        replace hst := hst.pk 2 [1, 0] rfl
        replace hst := hst.fz
        replace hst := hst.fz
        exact j1 _ _ ⟨rfl, rfl, rfl, ((hst.pk 1 [] rfl).facts (allC (mtF mhF) (allC mhF (allT (allT (allT allI))))))⟩
    clear hst
    rintro f w ⟨e16_6, e16_8, e16_47, hst⟩
    refine wpList_nil ?_
    refine k9 _ _ ?_
    rcases iteS hM with ⟨c19, hM⟩ | ⟨c19, hM⟩
    · refine condT (et rfl e16_47) c19 ?_
      refine seqQ fun Q10 k10 z10 => ?_
      refine wp_region_lit ?_
      refine Y wn rfl (ya (v := .bool false) rfl) ?_
      refine wpList_nil ?_
      refine k10 _ _ ?_
      refine wp_ret ?_
      refine z8 _ _ _ rfl ?_
      obtain rfl := someI hM
      exact hQ _ _ _ (fin1r Try.results5 ⟨rfl, rfl⟩ ⟨rfl, (hst.facts (allT (allT allI)))⟩)
    · refine condF (et rfl e16_47) (bfalse c19) ?_
      refine wp_skip ?_
      refine k8 _ _ ?_
      refine seqQ fun Q11 k11 z11 => ?_
      refine wp_region_lit ?_
      refine Y wn rfl (ym (v := h11.v) (et rfl e16_6)) ?_
      obtain ⟨r20, gr20, hM⟩ := bs hM
      refine Yc wn rfl (yCall FN_17 (a1 (et rfl rfl))) (etree_Postorder_ok (hM := gr20) (hst := hst) (q1 := mhF)) ?_
      clear hst
      rintro _ w ⟨h21, rfl, hst⟩
      refine ⟨_, rfl, ?_⟩
      refine Y wn rfl (ym (v := .tuple #[h21.v, .int .i64 r20.2]) (et rfl rfl)) ?_
      refine Y wn rfl (yx (v := h21.v) (et rfl rfl) rfl) ?_
      refine Y wn rfl (yx (v := .int .i64 r20.2) (et rfl rfl) rfl) ?_
      refine Y wn rfl (ya (v := h21.v) (et rfl rfl)) ?_
      refine Y wn rfl (ya (v := .int .i64 r20.2) (et rfl rfl)) ?_
      refine wpList_nil ?_
      refine k11 _ _ ?_
      refine seqQ fun Q12 k12 z12 => ?_
      refine wp_region_lit ?_
      refine Y wn rfl (ym (v := h13.v) (et rfl e16_8)) ?_
      obtain ⟨r22, gr22, hM⟩ := bs hM
      refine Yc wn rfl (yCall FN_18 (a1 (et rfl rfl))) (sparseref19_Postorder_ok (hM := gr22) (hst := hst) (q1 := (mtF mhF))) ?_
      clear hst
      rintro _ w ⟨h23, rfl, hst⟩
      refine ⟨_, rfl, ?_⟩
      refine Y wn rfl (ym (v := .tuple #[h23.v, .int .i64 r22.2]) (et rfl rfl)) ?_
      refine Y wn rfl (yx (v := h23.v) (et rfl rfl) rfl) ?_
      refine Y wn rfl (yx (v := .int .i64 r22.2) (et rfl rfl) rfl) ?_
      refine Y wn rfl (ya (v := h23.v) (et rfl rfl)) ?_
      refine Y wn rfl (ya (v := .int .i64 r22.2) (et rfl rfl)) ?_
      refine wpList_nil ?_
      refine k12 _ _ ?_
      refine seqQ fun Q13 k13 z13 => ?_
      refine wp_region_lit ?_
      refine Y wn rfl (ym (v := h11.v) (et rfl e16_6)) ?_
      obtain ⟨r24, gr24, hM⟩ := bs hM
      refine Yc wn rfl (yCall FN_19 (a1 (et rfl rfl))) (etree_Depths_ok (hM := gr24) (hst := hst) (q1 := mhF)) ?_
      clear hst
      rintro _ w ⟨h25, rfl, hst⟩
      refine ⟨_, rfl, ?_⟩
      refine Y wn rfl (ym (v := .tuple #[h25.v, .int .i64 r24.2]) (et rfl rfl)) ?_
      refine Y wn rfl (yx (v := h25.v) (et rfl rfl) rfl) ?_
      refine Y wn rfl (yx (v := .int .i64 r24.2) (et rfl rfl) rfl) ?_
      refine Y wn rfl (ya (v := h25.v) (et rfl rfl)) ?_
      refine Y wn rfl (ya (v := .int .i64 r24.2) (et rfl rfl)) ?_
      refine wpList_nil ?_
      refine k13 _ _ ?_
      refine seqQ fun Q14 k14 z14 => ?_
      refine wp_region_lit ?_
      refine Y wn rfl (ym (v := h13.v) (et rfl e16_8)) ?_
      obtain ⟨r26, gr26, hM⟩ := bs hM
      refine Yc wn rfl (yCall FN_20 (a1 (et rfl rfl))) (sparseref19_Depths_ok (hM := gr26) (hst := hst) (q1 := (mtF mhF))) ?_
      clear hst
      rintro _ w ⟨h27, rfl, hst⟩
      refine ⟨_, rfl, ?_⟩
      refine Y wn rfl (ym (v := .tuple #[h27.v, .int .i64 r26.2]) (et rfl rfl)) ?_
      refine Y wn rfl (yx (v := h27.v) (et rfl rfl) rfl) ?_
      refine Y wn rfl (yx (v := .int .i64 r26.2) (et rfl rfl) rfl) ?_
      refine Y wn rfl (ya (v := h27.v) (et rfl rfl)) ?_
      refine Y wn rfl (ya (v := .int .i64 r26.2) (et rfl rfl)) ?_
      refine wpList_nil ?_
      refine k14 _ _ ?_
      refine seqQ fun Q15 k15 z15 => ?_
      refine wp_region_lit ?_
      refine Y wn rfl (ym (v := h11.v) (et rfl e16_6)) ?_
      obtain ⟨r28, gr28, hM⟩ := bs hM
      refine Yc wn rfl (yCall FN_21 (a1 (et rfl rfl))) (etree_Sizes_ok (hM := gr28) (hst := hst) (q1 := mhF)) ?_
      clear hst
      rintro _ w ⟨h29, rfl, hst⟩
      refine ⟨_, rfl, ?_⟩
      refine Y wn rfl (ym (v := .tuple #[h29.v, .int .i64 r28.2]) (et rfl rfl)) ?_
      refine Y wn rfl (yx (v := h29.v) (et rfl rfl) rfl) ?_
      refine Y wn rfl (yx (v := .int .i64 r28.2) (et rfl rfl) rfl) ?_
      refine Y wn rfl (ya (v := h29.v) (et rfl rfl)) ?_
      refine Y wn rfl (ya (v := .int .i64 r28.2) (et rfl rfl)) ?_
      refine wpList_nil ?_
      refine k15 _ _ ?_
      refine seqQ fun Q16 k16 z16 => ?_
      refine wp_region_lit ?_
      refine Y wn rfl (ym (v := h13.v) (et rfl e16_8)) ?_
      obtain ⟨r30, gr30, hM⟩ := bs hM
      refine Yc wn rfl (yCall FN_22 (a1 (et rfl rfl))) (sparseref19_Sizes_ok (hM := gr30) (hst := hst) (q1 := (mtF mhF))) ?_
      clear hst
      rintro _ w ⟨h31, rfl, hst⟩
      refine ⟨_, rfl, ?_⟩
      refine Y wn rfl (ym (v := .tuple #[h31.v, .int .i64 r30.2]) (et rfl rfl)) ?_
      refine Y wn rfl (yx (v := h31.v) (et rfl rfl) rfl) ?_
      refine Y wn rfl (yx (v := .int .i64 r30.2) (et rfl rfl) rfl) ?_
      refine Y wn rfl (ya (v := h31.v) (et rfl rfl)) ?_
      refine Y wn rfl (ya (v := .int .i64 r30.2) (et rfl rfl)) ?_
      refine wpList_nil ?_
      refine k16 _ _ ?_
      refine seqQ fun Q17 k17 z17 => ?_
      refine wp_region_lit ?_
      refine Y wn rfl (ym (v := .int .i64 r20.2) (et rfl rfl)) ?_
      refine Y wn rfl (yeql (et rfl rfl) rfl) ?_
      refine Y wn rfl (ym (v := .bool (decide (r20.2 = 0))) (et rfl rfl)) ?_
      refine joinW 3 (fun f w => f 10 = h21.v ∧ f 12 = h23.v ∧ f 14 = h25.v ∧ f 16 = h27.v ∧ f 18 = h29.v ∧ f 19 = .int .i64 r28.2 ∧ f 20 = h31.v ∧ f 83 = .bool ((decide (r20.2 = 0)) && (decide (r24.2 = 0))) ∧ St w0 (ros) (row 3 (rI .i64) h21.v r20.1 :: row 3 (rI .i64) h23.v r22.1 :: row 3 (rI .i64) h25.v r24.1 :: row 3 (rI .i64) h27.v r26.1 :: row 3 (rI .i64) h29.v r28.1 :: row 3 (rI .i64) h31.v r30.1 :: rs) w) (fun j2 => ?_) ?_
      · rcases Bool.eq_false_or_eq_true (decide (r20.2 = 0)) with c33 | c33
        · refine Y (wg rfl rfl rfl c33) rfl (ym (v := .int .i64 r24.2) (et rfl rfl)) ?_
          refine Y (wg rfl rfl rfl c33) rfl (yeql (et rfl rfl) rfl) ?_
          refine Y wn rfl (ypt (v := .bool (decide (r24.2 = 0))) (et rfl rfl) c33 (et rfl rfl)) ?_
          exact j2 _ _ ⟨rfl, rfl, rfl, rfl, rfl, rfl, rfl, (congrArg Value.bool (andT c33)), ((hst.pk 6 [5, 4, 3, 2, 1, 0] rfl).facts (allT (allT allI)))⟩
        · refine Gn (wx rfl rfl rfl c33) rfl ?_
          refine Gn (wx rfl rfl rfl c33) rfl ?_
          refine Y wn rfl (ypf (v := .bool false) (et rfl rfl) c33 rfl) ?_
          exact j2 _ _ ⟨rfl, rfl, rfl, rfl, rfl, rfl, rfl, (congrArg Value.bool (andF c33)), ((hst.pk 6 [5, 4, 3, 2, 1, 0] rfl).facts (allT (allT allI)))⟩
      clear hst
      rintro f w ⟨e32_10, e32_12, e32_14, e32_16, e32_18, e32_19, e32_20, e32_83, hst⟩
      refine Y wn rfl (ym (v := .bool ((decide (r20.2 = 0)) && (decide (r24.2 = 0)))) (et rfl e32_83)) ?_
      refine joinW 3 (fun f w => f 10 = h21.v ∧ f 12 = h23.v ∧ f 14 = h25.v ∧ f 16 = h27.v ∧ f 18 = h29.v ∧ f 20 = h31.v ∧ f 87 = .bool (((decide (r20.2 = 0)) && (decide (r24.2 = 0))) && (decide (r28.2 = 0))) ∧ St w0 (ros) (row 3 (rI .i64) h21.v r20.1 :: row 3 (rI .i64) h23.v r22.1 :: row 3 (rI .i64) h25.v r24.1 :: row 3 (rI .i64) h27.v r26.1 :: row 3 (rI .i64) h29.v r28.1 :: row 3 (rI .i64) h31.v r30.1 :: rs) w) (fun j3 => ?_) ?_
      · rcases Bool.eq_false_or_eq_true (((decide (r20.2 = 0)) && (decide (r24.2 = 0)))) with c35 | c35
        · refine Y (wg rfl rfl rfl c35) rfl (ym (v := .int .i64 r28.2) (et rfl e32_19)) ?_
          refine Y (wg rfl rfl rfl c35) rfl (yeql (et rfl rfl) rfl) ?_
          refine Y wn rfl (ypt (v := .bool (decide (r28.2 = 0))) (et rfl rfl) c35 (et rfl rfl)) ?_
          exact j3 _ _ ⟨e32_10, e32_12, e32_14, e32_16, e32_18, e32_20, (congrArg Value.bool (andT c35)), hst⟩
        · refine Gn (wx rfl rfl rfl c35) rfl ?_
          refine Gn (wx rfl rfl rfl c35) rfl ?_
          refine Y wn rfl (ypf (v := .bool false) (et rfl rfl) c35 rfl) ?_
          exact j3 _ _ ⟨e32_10, e32_12, e32_14, e32_16, e32_18, e32_20, (congrArg Value.bool (andF c35)), hst⟩
      clear hst
      rintro f w ⟨e34_10, e34_12, e34_14, e34_16, e34_18, e34_20, e34_87, hst⟩
      refine Y wn rfl (ym (v := .bool (((decide (r20.2 = 0)) && (decide (r24.2 = 0))) && (decide (r28.2 = 0)))) (et rfl e34_87)) ?_
      obtain ⟨r37, gr37, hM⟩ := bs hM
      refine joinW 4 (fun f w => f 14 = h25.v ∧ f 16 = h27.v ∧ f 18 = h29.v ∧ f 20 = h31.v ∧ f 92 = .bool r37 ∧ St w0 (ros) (row 3 (rI .i64) h25.v r24.1 :: row 3 (rI .i64) h27.v r26.1 :: row 3 (rI .i64) h29.v r28.1 :: row 3 (rI .i64) h31.v r30.1 :: rs) w) (fun j4 => ?_) ?_
      · rcases iteS gr37 with ⟨c39, gr37⟩ | ⟨c39, gr37⟩
        · refine Y (wg rfl rfl rfl c39) rfl (ym (v := h21.v) (et rfl e34_10)) ?_
          refine Y (wg rfl rfl rfl c39) rfl (ym (v := h23.v) (et rfl e34_12)) ?_
          obtain ⟨r40, gr40, gr37⟩ := bs gr37
          replace hst := hst.fz
          replace hst := hst.fz
          refine Yc (wg rfl rfl rfl c39) rfl (yCall FN_23 (a2 (et rfl rfl) (et rfl rfl))) (sparsekit_Ints_ok (hM := gr40) (hst := hst) (q1 := (mtF mhF)) (q2 := mhF)) ?_
          clear hst
          rintro _ w ⟨rfl, hst⟩
          refine ⟨_, rfl, ?_⟩
          refine Y wn rfl (ypt (v := .bool r40) (et rfl rfl) c39 (et rfl rfl)) ?_
          obtain rfl := someI gr37
          exact j4 _ _ ⟨e34_14, e34_16, e34_18, e34_20, rfl, (hst.facts (allT (allT allI)))⟩
        · refine Gn (wx rfl rfl rfl (bfalse c39)) rfl ?_
          refine Gn (wx rfl rfl rfl (bfalse c39)) rfl ?_
          refine Gn (wx rfl rfl rfl (bfalse c39)) rfl ?_
          refine Y wn rfl (ypf (v := .bool false) (et rfl rfl) (bfalse c39) rfl) ?_
          obtain rfl := someI gr37
          exact j4 _ _ ⟨e34_14, e34_16, e34_18, e34_20, rfl, (hst.pk 6 [2, 2, 2, 2] rfl)⟩
      clear hst
      rintro f w ⟨e38_14, e38_16, e38_18, e38_20, e38_92, hst⟩
      refine Y wn rfl (ym (v := .bool r37) (et rfl e38_92)) ?_
      obtain ⟨r42, gr42, hM⟩ := bs hM
      refine joinW 4 (fun f w => f 18 = h29.v ∧ f 20 = h31.v ∧ f 97 = .bool r42 ∧ St w0 (ros) (row 3 (rI .i64) h29.v r28.1 :: row 3 (rI .i64) h31.v r30.1 :: rs) w) (fun j5 => ?_) ?_
      · rcases iteS gr42 with ⟨c44, gr42⟩ | ⟨c44, gr42⟩
        · refine Y (wg rfl rfl rfl c44) rfl (ym (v := h25.v) (et rfl e38_14)) ?_
          refine Y (wg rfl rfl rfl c44) rfl (ym (v := h27.v) (et rfl e38_16)) ?_
          obtain ⟨r45, gr45, gr42⟩ := bs gr42
          replace hst := hst.fz
          replace hst := hst.fz
          refine Yc (wg rfl rfl rfl c44) rfl (yCall FN_23 (a2 (et rfl rfl) (et rfl rfl))) (sparsekit_Ints_ok (hM := gr45) (hst := hst) (q1 := (mtF mhF)) (q2 := mhF)) ?_
          clear hst
          rintro _ w ⟨rfl, hst⟩
          refine ⟨_, rfl, ?_⟩
          refine Y wn rfl (ypt (v := .bool r45) (et rfl rfl) c44 (et rfl rfl)) ?_
          obtain rfl := someI gr42
          exact j5 _ _ ⟨e38_18, e38_20, rfl, (hst.facts (allT (allT allI)))⟩
        · refine Gn (wx rfl rfl rfl (bfalse c44)) rfl ?_
          refine Gn (wx rfl rfl rfl (bfalse c44)) rfl ?_
          refine Gn (wx rfl rfl rfl (bfalse c44)) rfl ?_
          refine Y wn rfl (ypf (v := .bool false) (et rfl rfl) (bfalse c44) rfl) ?_
          obtain rfl := someI gr42
          exact j5 _ _ ⟨e38_18, e38_20, rfl, (hst.pk 4 [2, 2] rfl)⟩
      clear hst
      rintro f w ⟨e43_18, e43_20, e43_97, hst⟩
      refine Y wn rfl (ym (v := .bool r42) (et rfl e43_97)) ?_
      obtain ⟨r47, gr47, hM⟩ := bs hM
      refine joinW 4 (fun f w => f 102 = .bool r47 ∧ St w0 (ros) (rs) w) (fun j6 => ?_) ?_
      · rcases iteS gr47 with ⟨c49, gr47⟩ | ⟨c49, gr47⟩
        · refine Y (wg rfl rfl rfl c49) rfl (ym (v := h29.v) (et rfl e43_18)) ?_
          refine Y (wg rfl rfl rfl c49) rfl (ym (v := h31.v) (et rfl e43_20)) ?_
          obtain ⟨r50, gr50, gr47⟩ := bs gr47
          replace hst := hst.fz
          replace hst := hst.fz
          refine Yc (wg rfl rfl rfl c49) rfl (yCall FN_23 (a2 (et rfl rfl) (et rfl rfl))) (sparsekit_Ints_ok (hM := gr50) (hst := hst) (q1 := (mtF mhF)) (q2 := mhF)) ?_
          clear hst
          rintro _ w ⟨rfl, hst⟩
          refine ⟨_, rfl, ?_⟩
          refine Y wn rfl (ypt (v := .bool r50) (et rfl rfl) c49 (et rfl rfl)) ?_
          obtain rfl := someI gr47
          exact j6 _ _ ⟨rfl, (hst.facts (allT (allT allI)))⟩
        · refine Gn (wx rfl rfl rfl (bfalse c49)) rfl ?_
          refine Gn (wx rfl rfl rfl (bfalse c49)) rfl ?_
          refine Gn (wx rfl rfl rfl (bfalse c49)) rfl ?_
          refine Y wn rfl (ypf (v := .bool false) (et rfl rfl) (bfalse c49) rfl) ?_
          obtain rfl := someI gr47
          exact j6 _ _ ⟨rfl, (hst.pk 2 [] rfl)⟩
      clear hst
      rintro f w ⟨e48_102, hst⟩
      refine Y wn rfl (ym (v := .bool r47) (et rfl e48_102)) ?_
      obtain ⟨r52, gr52, hM⟩ := bs hM
      refine joinW 2 (fun f w => f 105 = .bool r52 ∧ St w0 (ros) (rs) w) (fun j7 => ?_) ?_
      · rcases iteS gr52 with ⟨c54, gr52⟩ | ⟨c54, gr52⟩
        · obtain ⟨r55, gr55, gr52⟩ := bs gr52
          refine Yc (wg rfl rfl rfl c54) rfl (yCall FN_10 a0) (sparselaw19_awake_ok (hM := gr55) (hst := hst) ) ?_
          clear hst
          rintro _ w ⟨rfl, hst⟩
          refine ⟨_, rfl, ?_⟩
          refine Y wn rfl (ypt (v := .bool r55) (et rfl rfl) c54 (et rfl rfl)) ?_
          obtain rfl := someI gr52
          exact j7 _ _ ⟨rfl, hst⟩
        · refine Gn (wx rfl rfl rfl (bfalse c54)) rfl ?_
          refine Y wn rfl (ypf (v := .bool false) (et rfl rfl) (bfalse c54) rfl) ?_
          obtain rfl := someI gr52
          exact j7 _ _ ⟨rfl, hst⟩
      clear hst
      rintro f w ⟨e53_105, hst⟩
      refine Y wn rfl (ya (v := .bool r52) (et rfl e53_105)) ?_
      refine wpList_nil ?_
      refine k17 _ _ ?_
      refine wp_ret ?_
      obtain rfl := someI hM
      exact hQ _ _ _ (fin1r Try.results5 ⟨rfl, rfl⟩ ⟨rfl, hst⟩)

theorem sparselaw19_small_ok {w0 : World} {ros : List Fact} {rs : List Res} {w : World} {x1 : List (List Int)} {h2 : Hdr} {out : Bool} (hM : sparselaw19_small x1 = some out) (q1 : imm (rS (rI .i64)) h2.v x1 ∈ ros) (hst : St w0 ros (rs) w) :
    Calls Try.prog 28 #[.agg #[h2.v]] w (fun e w => e = .returned (.bool out) ∧ St w0 (ros) (rs) w) := by
  refine enterQ Try.func28 rfl Try.ntmps28 rfl fun Q hQ => ?_
  refine seqQ fun Q1 k1 z1 => ?_
  refine wp_region_lit ?_
  refine YB wn rfl (r_box (vals := [h2.v]) hst (et rfl rfl) rfl) ?_
  clear hst
  intro b3 w hst
  refine Y wn rfl (ya (v := .bool false) rfl) ?_
  refine wpList_nil ?_
  refine k1 _ _ ?_
  refine seqQ fun Q2 k2 z2 => ?_
  refine seqQ fun Q3 k3 z3 => ?_
  refine wp_region_lit ?_
  refine Y wn rfl (yFb FL_27_0 (et rfl rfl)) ?_
  refine Y wn rfl (yLb (u := h2.v) O_25 (et rfl rfl) hst mhR rfl) ?_
  refine Y wn rfl (yLen SL_25 (et rfl rfl) hst (rdI q1)) ?_
  refine Y wn rfl (ygtr (et rfl rfl) rfl) ?_
  refine Y wn rfl (ym (v := .bool (decide ((12 : Int) < (x1.length : Int)))) (et rfl rfl)) ?_
  refine joinW 5 (fun f w => f 1 = .pointer (some ⟨b3, 0, none⟩) ∧ f 13 = .bool ((decide ((12 : Int) < (x1.length : Int))) && (decide ((x1.length : Int) ≤ 200))) ∧ St w0 (ros) (box b3 27 [h2.v] :: rs) w) (fun j1 => ?_) ?_
  · rcases Bool.eq_false_or_eq_true (decide ((12 : Int) < (x1.length : Int))) with c5 | c5
    · refine Y (wg rfl rfl rfl c5) rfl (yFb FL_27_0 (et rfl rfl)) ?_
      refine Y (wg rfl rfl rfl c5) rfl (yLb (u := h2.v) O_25 (et rfl rfl) hst mhR rfl) ?_
      refine Y (wg rfl rfl rfl c5) rfl (yLen SL_25 (et rfl rfl) hst (rdI q1)) ?_
      refine Y (wg rfl rfl rfl c5) rfl (yleq (et rfl rfl) rfl) ?_
      refine Y wn rfl (ypt (v := .bool (decide ((x1.length : Int) ≤ 200))) (et rfl rfl) c5 (et rfl rfl)) ?_
      exact j1 _ _ ⟨rfl, (congrArg Value.bool (andT c5)), hst⟩
    · refine Gn (wx rfl rfl rfl c5) rfl ?_
      refine Gn (wx rfl rfl rfl c5) rfl ?_
      refine Gn (wx rfl rfl rfl c5) rfl ?_
      refine Gn (wx rfl rfl rfl c5) rfl ?_
      refine Y wn rfl (ypf (v := .bool false) (et rfl rfl) c5 rfl) ?_
      exact j1 _ _ ⟨rfl, (congrArg Value.bool (andF c5)), hst⟩
  clear hst
  rintro f w ⟨e4_1, e4_13, hst⟩
  refine Y wn rfl (ym (v := .bool ((decide ((12 : Int) < (x1.length : Int))) && (decide ((x1.length : Int) ≤ 200)))) (et rfl e4_13)) ?_
  refine joinW 5 (fun f w => f 1 = .pointer (some ⟨b3, 0, none⟩) ∧ f 19 = .bool (((decide ((12 : Int) < (x1.length : Int))) && (decide ((x1.length : Int) ≤ 200))) || (decide ((400 : Int) < (x1.length : Int)))) ∧ St w0 (ros) (box b3 27 [h2.v] :: rs) w) (fun j2 => ?_) ?_
  · rcases Bool.eq_false_or_eq_true (((decide ((12 : Int) < (x1.length : Int))) && (decide ((x1.length : Int) ≤ 200)))) with c7 | c7
    · refine Gn (wx rfl rfl rfl c7) rfl ?_
      refine Gn (wx rfl rfl rfl c7) rfl ?_
      refine Gn (wx rfl rfl rfl c7) rfl ?_
      refine Gn (wx rfl rfl rfl c7) rfl ?_
      refine Y wn rfl (ypt (v := .bool true) (et rfl rfl) c7 rfl) ?_
      exact j2 _ _ ⟨e4_1, (congrArg Value.bool (orT c7)), hst⟩
    · refine Y (wg rfl rfl rfl c7) rfl (yFb FL_27_0 (et rfl e4_1)) ?_
      refine Y (wg rfl rfl rfl c7) rfl (yLb (u := h2.v) O_25 (et rfl rfl) hst mhR rfl) ?_
      refine Y (wg rfl rfl rfl c7) rfl (yLen SL_25 (et rfl rfl) hst (rdI q1)) ?_
      refine Y (wg rfl rfl rfl c7) rfl (ygtr (et rfl rfl) rfl) ?_
      refine Y wn rfl (ypf (v := .bool (decide ((400 : Int) < (x1.length : Int)))) (et rfl rfl) c7 (et rfl rfl)) ?_
      exact j2 _ _ ⟨e4_1, (congrArg Value.bool (orF c7)), hst⟩
  clear hst
  rintro f w ⟨e6_1, e6_19, hst⟩
  refine wpList_nil ?_
  refine k3 _ _ ?_
  rcases iteS hM with ⟨c8, hM⟩ | ⟨c8, hM⟩
  · refine condT (et rfl e6_19) c8 ?_
    refine seqQ fun Q4 k4 z4 => ?_
    refine wp_region_lit ?_
    refine Y wn rfl (ya (v := .bool false) rfl) ?_
    refine wpList_nil ?_
    refine k4 _ _ ?_
    refine wp_ret ?_
    refine z2 _ _ _ rfl ?_
    obtain rfl := someI hM
    exact hQ _ _ _ (fin1r Try.results28 ⟨rfl, rfl⟩ ⟨rfl, (hst.pk 1 [] rfl)⟩)
  · refine condF (et rfl e6_19) (bfalse c8) ?_
    refine wp_skip ?_
    refine k2 _ _ ?_
    refine seqQ fun Q5 k5 z5 => ?_
    refine seqQ fun Q6 k6 z6 => ?_
    refine wp_region_lit ?_
    refine Y wn rfl (ya (v := .int .i64 0) rfl) ?_
    refine wpList_nil ?_
    refine k6 _ _ ?_
    refine blockQ fun Q7 qb7 => ?_
    obtain ⟨o3, go3, hM⟩ := bs hM
    have je3_0 : ∀ (f : Nat → Value) (w : World), St w0 (ros) (rs) w → .inl () = o3 → Q7 (.exit 0) (fr 34 f) w := by
      intro f w hst ho
      subst ho
      refine qb7 _ _ _ ?_
      refine k5 _ _ ?_
      refine seqQ fun Q20 k20 z20 => ?_
      refine wp_region_lit ?_
      refine Y wn rfl (ya (v := .bool true) rfl) ?_
      refine wpList_nil ?_
      refine k20 _ _ ?_
      refine wp_ret ?_
      obtain rfl := someI hM
      exact hQ _ _ _ (fin1r Try.results28 ⟨rfl, rfl⟩ ⟨rfl, hst⟩)
    have je3_1 : ∀ (f : Nat → Value) (w : World), f 2 = .bool false → St w0 (ros) (rs) w → .inr () = o3 → Q7 .ret (fr 34 f) w := by
      intro f w eje3_1_2 hst ho
      subst ho
      refine qb7 _ _ _ ?_
      refine z5 _ _ _ rfl ?_
      obtain rfl := someI hM
      exact hQ _ _ _ (fin1r Try.results28 ⟨rfl, eje3_1_2⟩ ⟨rfl, hst⟩)
    refine loopQ (fun s a w => ∃ (x13 : Int) (f : Nat → Value), x13 = s ∧ a = fr 34 f ∧ f 1 = .pointer (some ⟨b3, 0, none⟩) ∧ f 3 = .int .i64 x13 ∧ St w0 (ros) (box b3 27 [h2.v] :: rs) w) go3 ⟨_, _, rfl, rfl, e6_1, rfl, hst⟩ ?_
    clear hst
    rintro _ _ w r3_ ⟨x13, f, rfl, rfl, e3_1, e3_3, hst⟩ hM3 ho3 Q100003 n3 zz3
    refine seqQ fun Q21 k21 z21 => ?_
    refine seqQ fun Q22 k22 z22 => ?_
    refine wp_region_lit ?_
    refine Y wn rfl (ym (v := .int .i64 x13) (et rfl e3_3)) ?_
    refine Y wn rfl (yFb FL_27_0 (et rfl e3_1)) ?_
    refine Y wn rfl (yLb (u := h2.v) O_25 (et rfl rfl) hst mhR rfl) ?_
    refine Y wn rfl (yLen SL_25 (et rfl rfl) hst (rdI q1)) ?_
    refine Y wn rfl (ylss (et rfl rfl) (et rfl rfl)) ?_
    refine wpList_nil ?_
    refine k22 _ _ ?_
    rcases iteS hM3 with ⟨c19, hM3⟩ | ⟨c19, hM3⟩
    · refine condT (et rfl rfl) (decide_eq_true c19) ?_
      refine wp_skip ?_
      refine k21 _ _ ?_
      refine seqQ fun Q23 k23 z23 => ?_
      refine blockQ fun Q24 qb24 => ?_
      refine seqQ fun Q25 k25 z25 => ?_
      refine wp_region_lit ?_
      refine Y wn rfl (yFb FL_27_0 (et rfl e3_1)) ?_
      refine Y wn rfl (yLb (u := h2.v) O_25 (et rfl rfl) hst mhR rfl) ?_
      refine Y wn rfl (ym (v := .int .i64 x13) (et rfl e3_3)) ?_
      obtain ⟨x20, gx20, hM3⟩ := bs hM3
      refine Y wn rfl (yIa SL_25 (et rfl rfl) (et rfl rfl) hst (rdI q1) gx20) ?_
      obtain ⟨h21, hst⟩ := iLs hst q1 gx20
      refine Y wn rfl (yCt O_22 (et rfl rfl) hst (mtF mhF) rfl) ?_
      refine Y wn rfl (yLen SL_22 (et rfl rfl) hst (rdI mhF)) ?_
      refine Y wn rfl (ygtr (et rfl rfl) rfl) ?_
      refine wpList_nil ?_
      refine k25 _ _ ?_
      rcases iteS hM3 with ⟨c22, hM3⟩ | ⟨c22, hM3⟩
      · refine condT (et rfl rfl) (decide_eq_true c22) ?_
        refine seqQ fun Q26 k26 z26 => ?_
        refine wp_region_lit ?_
        refine Y wn rfl (ya (v := .bool false) rfl) ?_
        refine wpList_nil ?_
        refine k26 _ _ ?_
        refine wp_ret ?_
        refine qb24 _ _ _ ?_
        refine z23 _ _ _ rfl ?_
        obtain rfl := someI hM3
        refine zz3 _ _ _ _ rfl rfl ?_
        exact je3_1 _ _ rfl ((hst.pk 1 [] rfl).facts (allT (allT allI))) (ho3 _ rfl)
      · refine condF (et rfl rfl) (decide_eq_false c22) ?_
        refine wp_skip ?_
        refine qb24 _ _ _ ?_
        refine k23 _ _ ?_
        refine wp_region_lit ?_
        refine Y wn rfl (ym (v := .int .i64 x13) (et rfl e3_3)) ?_
        refine Y wn rfl (yadd (et rfl rfl) rfl) ?_
        refine Y wn rfl (ya (v := .int .i64 (wa .i64 x13 1)) (et rfl rfl)) ?_
        refine wpList_nil ?_
        obtain rfl := someI hM3
        exact n3 _ _ _ rfl ⟨_, _, rfl, rfl, e3_1, rfl, (hst.facts (allT (allT allI)))⟩
    · refine condF (et rfl rfl) (decide_eq_false c19) ?_
      refine wp_exit ?_
      refine z21 _ _ _ rfl ?_
      obtain rfl := someI hM3
      refine zz3 _ _ _ _ rfl rfl ?_
      exact je3_0 _ _ (hst.pk 1 [] rfl) (ho3 _ rfl)

theorem sparsekit_TwinLists_ok {w0 : World} {ros : List Fact} {rs : List Res} {w : World} {x1 : List (List Int)} {h2 : Hdr} {out : (List (List Int))} (hM : sparsekit_TwinLists x1 = some out) (q1 : imm (rS (rI .i64)) h2.v x1 ∈ ros) (hst : St w0 ros (rs) w) :
    Calls Try.prog 48 #[h2.v] w (fun e w => ∃ (h100001 : Hdr), e = .returned (h100001.v) ∧ St w0 (ros) (row 22 (rS (rI .i64)) h100001.v out :: rs) w) := by
  refine enterQ Try.func48 rfl Try.ntmps48 rfl fun Q hQ => ?_
  refine seqQ fun Q1 k1 z1 => ?_
  refine wp_region_lit ?_
  refine Y wn rfl (ya (v := hnil.v) rfl) ?_
  refine wpList_nil ?_
  refine k1 _ _ ?_
  refine seqQ fun Q2 k2 z2 => ?_
  refine wp_region_lit ?_
  refine Y wn rfl (ya (v := hnil.v) rfl) ?_
  refine wpList_nil ?_
  refine k2 _ _ ?_
  refine seqQ fun Q3 k3 z3 => ?_
  refine seqQ fun Q4 k4 z4 => ?_
  refine wp_region_lit ?_
  refine Y wn rfl (ya (v := .int .i64 0) rfl) ?_
  refine wpList_nil ?_
  refine k4 _ _ ?_
  refine blockQ fun Q5 qb5 => ?_
  obtain ⟨o1, go1, hM⟩ := bs hM
  have je1_0 : ∀ (x26 : List (List Int)) (h25 : Hdr) (f : Nat → Value) (w : World), f 3 = h25.v → St w0 (ros) (row 22 (rS (rI .i64)) h25.v x26 :: rs) w → x26 = o1 → Q5 (.exit 0) (fr 20 f) w := by
    intro x26 h25 f w eje1_0_3 hst ho
    subst ho
    refine qb5 _ _ _ ?_
    refine k3 _ _ ?_
    refine seqQ fun Q14 k14 z14 => ?_
    refine wp_region_lit ?_
    refine Y wn rfl (ym (v := h25.v) (et rfl eje1_0_3)) ?_
    refine Y wn rfl (ya (v := h25.v) (et rfl rfl)) ?_
    refine wpList_nil ?_
    refine k14 _ _ ?_
    refine wp_ret ?_
    obtain rfl := someI hM
    exact hQ _ _ _ (fin1r Try.results48 ⟨rfl, rfl⟩ ⟨_, rfl, hst⟩)
  replace hst := hst.rowNh 22 (rS (rI .i64))
  refine loopQ (fun s a w => ∃ (x12 : List (List Int)) (x13 : Int) (f : Nat → Value) (h11 : Hdr), (x12, x13) = s ∧ a = fr 20 f ∧ f 0 = h2.v ∧ f 3 = h11.v ∧ f 4 = .int .i64 x13 ∧ St w0 (ros) (row 22 (rS (rI .i64)) h11.v x12 :: rs) w) go1 ⟨_, _, _, _, rfl, rfl, rfl, rfl, rfl, hst⟩ ?_
  clear hst
  rintro _ _ w r1_ ⟨x12, x13, f, h11, rfl, rfl, e1_0, e1_3, e1_4, hst⟩ hM1 ho1 Q100001 n1 zz1
  refine seqQ fun Q15 k15 z15 => ?_
  refine seqQ fun Q16 k16 z16 => ?_
  refine wp_region_lit ?_
  refine Y wn rfl (ym (v := .int .i64 x13) (et rfl e1_4)) ?_
  refine Y wn rfl (ym (v := h2.v) (et rfl e1_0)) ?_
  refine Y wn rfl (yLen SL_25 (et rfl rfl) hst (rdI q1)) ?_
  refine Y wn rfl (ylss (et rfl rfl) (et rfl rfl)) ?_
  refine wpList_nil ?_
  refine k16 _ _ ?_
  rcases iteS hM1 with ⟨c27, hM1⟩ | ⟨c27, hM1⟩
  · refine condT (et rfl rfl) (decide_eq_true c27) ?_
    refine wp_skip ?_
    refine k15 _ _ ?_
    refine seqQ fun Q17 k17 z17 => ?_
    refine blockQ fun Q18 qb18 => ?_
    refine wp_region_lit ?_
    refine Y wn rfl (ym (v := h11.v) (et rfl e1_3)) ?_
    refine Y wn rfl (ym (v := h2.v) (et rfl e1_0)) ?_
    refine Y wn rfl (ym (v := .int .i64 x13) (et rfl e1_4)) ?_
    obtain ⟨x28, gx28, hM1⟩ := bs hM1
    refine Y wn rfl (yIa SL_25 (et rfl rfl) (et rfl rfl) hst (rdI q1) gx28) ?_
    obtain ⟨h29, hst⟩ := iLs hst q1 gx28
    refine Y wn rfl (yCt O_22 (et rfl rfl) hst (mtF mhF) rfl) ?_
    obtain ⟨r30, gr30, hM1⟩ := bs hM1
    refine Yc wn rfl (yCall FN_16 (a1 (et rfl rfl))) (sparsekit_TwinInts_ok (hM := gr30) (hst := hst) (q1 := mhF)) ?_
    clear hst
    rintro _ w ⟨h31, rfl, hst⟩
    refine ⟨_, rfl, ?_⟩
    replace hst := hst.fz
    refine YH wn rfl (rLt (n := 1) (l := [r30]) hst SL_25 [h31.v] (bp1 (et rfl rfl)) rfl rfl (mks1 (cs := [h31.v]) rfl (mkS mhF) mks0)) ?_
    clear hst
    intro h32 w hst
    obtain ⟨x34, gx34, hM1⟩ := bs hM1
    replace hst := hst.pk 2 [1, 0] rfl
    refine YH wn rfl (rAp hst SL_25 (et rfl rfl) (et rfl rfl) (rdO (mtR mhR)) gx34) ?_
    clear hst
    intro h33 w hst
    refine Y wn rfl (ya (v := h33.v) (et rfl rfl)) ?_
    refine wpList_nil ?_
    refine qb18 _ _ _ ?_
    refine k17 _ _ ?_
    refine wp_region_lit ?_
    refine Y wn rfl (ym (v := .int .i64 x13) (et rfl e1_4)) ?_
    refine Y wn rfl (yadd (et rfl rfl) rfl) ?_
    refine Y wn rfl (ya (v := .int .i64 (wa .i64 x13 1)) (et rfl rfl)) ?_
    refine wpList_nil ?_
    obtain rfl := someI hM1
    exact n1 _ _ _ rfl ⟨_, _, _, _, rfl, rfl, e1_0, rfl, rfl, ((hst.pk 2 [0] rfl).facts (allT (allT (allT allI))))⟩
  · refine condF (et rfl rfl) (decide_eq_false c27) ?_
    refine wp_exit ?_
    refine z15 _ _ _ rfl ?_
    obtain rfl := someI hM1
    refine zz1 _ _ _ _ rfl rfl ?_
    exact je1_0 _ _ _ _ e1_3 hst (ho1 _ rfl)

theorem sparsekit_TwinGraph_ok {w0 : World} {ros : List Fact} {rs : List Res} {w : World} {x1 : List (List Int)} {h2 : Hdr} {out : (List (List Int))} (hM : sparsekit_TwinGraph x1 = some out) (q1 : imm (rS (rI .i64)) h2.v x1 ∈ ros) (hst : St w0 ros (rs) w) :
    Calls Try.prog 29 #[.agg #[h2.v]] w (fun e w => ∃ (h100001 : Hdr), e = .returned (.agg #[h100001.v]) ∧ St w0 (ros) (row 22 (rS (rI .i64)) h100001.v out :: rs) w) := by
  refine enterQ Try.func29 rfl Try.ntmps29 rfl fun Q hQ => ?_
  refine seqQ fun Q1 k1 z1 => ?_
  refine wp_region_lit ?_
  refine YB wn rfl (r_box (vals := [h2.v]) hst (et rfl rfl) rfl) ?_
  clear hst
  intro b3 w hst
  refine YB wn rfl (rAl hst ZT_27) ?_
  clear hst
  intro b4 w hst
  refine wpList_nil ?_
  refine k1 _ _ ?_
  refine seqQ fun Q2 k2 z2 => ?_
  refine wp_region_lit ?_
  refine Y wn rfl (yFb FL_27_0 (et rfl rfl)) ?_
  refine Y wn rfl (yLb (u := h2.v) O_25 (et rfl rfl) hst (mtR mhR) rfl) ?_
  obtain ⟨r5, gr5, hM⟩ := bs hM
  refine Yc wn rfl (yCall FN_48 (a1 (et rfl rfl))) (sparsekit_TwinLists_ok (hM := gr5) (hst := hst) (q1 := q1)) ?_
  clear hst
  rintro _ w ⟨h6, rfl, hst⟩
  refine ⟨_, rfl, ?_⟩
  refine Y wn rfl (ybuild (us := [h6.v]) [(0, h6.v)] SO_27 (bp1 (et rfl rfl)) rfl) ?_
  replace hst := hst.pk 2 [1, 0] rfl
  refine YT wn rfl (r_stbn (vals' := [h6.v]) (us := [h6.v]) hst ST_27 (et rfl rfl) (et rfl rfl) rfl rfl (one_of rfl) rfl) ?_
  clear hst
  intro w hst
  refine wpList_nil ?_
  refine k2 _ _ ?_
  refine wp_ret ?_
  obtain rfl := someI hM
  exact hQ _ _ _ (fin1r Try.results29 (rcs2 rfl rfl hst mhR ST_27 rfl) ⟨_, rfl, (hst.pk 3 [1] rfl)⟩)

theorem matrix_within_ok {w0 : World} {ros : List Fact} {rs : List Res} {w : World} {x1 : Int} {x2 : Int} {x3 : Int} {out : Bool} (hM : matrix_within x1 x2 x3 = some out) (hst : St w0 ros (rs) w) :
    Calls Try.prog 64 #[.int .i64 x1, .int .i64 x2, .int .i64 x3] w (fun e w => e = .returned (.bool out) ∧ St w0 (ros) (rs) w) := by
  refine enterQ Try.func64 rfl Try.ntmps64 rfl fun Q hQ => ?_
  refine seqQ fun Q1 k1 z1 => ?_
  refine wp_region_lit ?_
  refine Y wn rfl (ya (v := .bool false) rfl) ?_
  refine wpList_nil ?_
  refine k1 _ _ ?_
  refine seqQ fun Q2 k2 z2 => ?_
  refine wp_region_lit ?_
  refine Y wn rfl (ym (v := .int .i64 x1) (et rfl rfl)) ?_
  refine Y wn rfl (ym (v := .int .i64 x2) (et rfl rfl)) ?_
  refine Y wn rfl (ygeq (et rfl rfl) (et rfl rfl)) ?_
  refine Y wn rfl (ym (v := .bool (decide (x2 ≤ x1))) (et rfl rfl)) ?_
  refine joinW 4 (fun f w => f 14 = .bool ((decide (x2 ≤ x1)) && (decide (x1 ≤ x3))) ∧ St w0 (ros) (rs) w) (fun j1 => ?_) ?_
  · rcases Bool.eq_false_or_eq_true (decide (x2 ≤ x1)) with c5 | c5
    · refine Y (wg rfl rfl rfl c5) rfl (ym (v := .int .i64 x1) (et rfl rfl)) ?_
      refine Y (wg rfl rfl rfl c5) rfl (ym (v := .int .i64 x3) (et rfl rfl)) ?_
      refine Y (wg rfl rfl rfl c5) rfl (yleq (et rfl rfl) (et rfl rfl)) ?_
      refine Y wn rfl (ypt (v := .bool (decide (x1 ≤ x3))) (et rfl rfl) c5 (et rfl rfl)) ?_
      exact j1 _ _ ⟨(congrArg Value.bool (andT c5)), hst⟩
    · refine Gn (wx rfl rfl rfl c5) rfl ?_
      refine Gn (wx rfl rfl rfl c5) rfl ?_
      refine Gn (wx rfl rfl rfl c5) rfl ?_
      refine Y wn rfl (ypf (v := .bool false) (et rfl rfl) c5 rfl) ?_
      exact j1 _ _ ⟨(congrArg Value.bool (andF c5)), hst⟩
  clear hst
  rintro f w ⟨e4_14, hst⟩
  refine Y wn rfl (ya (v := .bool ((decide (x2 ≤ x1)) && (decide (x1 ≤ x3)))) (et rfl e4_14)) ?_
  refine wpList_nil ?_
  refine k2 _ _ ?_
  refine wp_ret ?_
  obtain rfl := someI hM
  exact hQ _ _ _ (fin1r Try.results64 ⟨rfl, rfl⟩ ⟨rfl, hst⟩)

theorem slices_IsSorted_int_ok {w0 : World} {ros : List Fact} {rs : List Res} {w : World} {x1 : List Int} {h2 : Hdr} {out : Bool} (hM : slices_IsSorted_int x1 = some out) (q1 : imm (rI .i64) h2.v x1 ∈ ros) (hst : St w0 ros (rs) w) :
    Calls Try.prog 84 #[h2.v] w (fun e w => e = .returned (.bool out) ∧ St w0 (ros) (rs) w) := by
  refine enterQ Try.func84 rfl Try.ntmps84 rfl fun Q hQ => ?_
  refine seqQ fun Q1 k1 z1 => ?_
  refine wp_region_lit ?_
  refine Y wn rfl (ya (v := .bool false) rfl) ?_
  refine wpList_nil ?_
  refine k1 _ _ ?_
  refine seqQ fun Q2 k2 z2 => ?_
  refine seqQ fun Q3 k3 z3 => ?_
  refine wp_region_lit ?_
  refine Y wn rfl (ym (v := h2.v) (et rfl rfl)) ?_
  refine Y wn rfl (yLen SL_22 (et rfl rfl) hst (rdI q1)) ?_
  refine Y wn rfl (ysub (et rfl rfl) rfl) ?_
  refine Y wn rfl (ya (v := .int .i64 (ws .i64 (x1.length : Int) 1)) (et rfl rfl)) ?_
  refine wpList_nil ?_
  refine k3 _ _ ?_
  refine blockQ fun Q4 qb4 => ?_
  obtain ⟨o1, go1, hM⟩ := bs hM
  have je1_0 : ∀ (f : Nat → Value) (w : World), St w0 (ros) (rs) w → .inl () = o1 → Q4 (.exit 0) (fr 21 f) w := by
    intro f w hst ho
    subst ho
    refine qb4 _ _ _ ?_
    refine k2 _ _ ?_
    refine seqQ fun Q17 k17 z17 => ?_
    refine wp_region_lit ?_
    refine Y wn rfl (ya (v := .bool true) rfl) ?_
    refine wpList_nil ?_
    refine k17 _ _ ?_
    refine wp_ret ?_
    obtain rfl := someI hM
    exact hQ _ _ _ (fin1r Try.results84 ⟨rfl, rfl⟩ ⟨rfl, hst⟩)
  have je1_1 : ∀ (f : Nat → Value) (w : World), f 2 = .bool false → St w0 (ros) (rs) w → .inr () = o1 → Q4 .ret (fr 21 f) w := by
    intro f w eje1_1_2 hst ho
    subst ho
    refine qb4 _ _ _ ?_
    refine z2 _ _ _ rfl ?_
    obtain rfl := someI hM
    exact hQ _ _ _ (fin1r Try.results84 ⟨rfl, eje1_1_2⟩ ⟨rfl, hst⟩)
  refine loopQ (fun s a w => ∃ (x8 : Int) (f : Nat → Value), x8 = s ∧ a = fr 21 f ∧ f 0 = h2.v ∧ f 3 = .int .i64 x8 ∧ St w0 (ros) (rs) w) go1 ⟨_, _, rfl, rfl, rfl, rfl, hst⟩ ?_
  clear hst
  rintro _ _ w r1_ ⟨x8, f, rfl, rfl, e1_0, e1_3, hst⟩ hM1 ho1 Q100001 n1 zz1
  refine seqQ fun Q18 k18 z18 => ?_
  refine seqQ fun Q19 k19 z19 => ?_
  refine wp_region_lit ?_
  refine Y wn rfl (ym (v := .int .i64 x8) (et rfl e1_3)) ?_
  refine Y wn rfl (ygtr (et rfl rfl) rfl) ?_
  refine wpList_nil ?_
  refine k19 _ _ ?_
  rcases iteS hM1 with ⟨c15, hM1⟩ | ⟨c15, hM1⟩
  · refine condT (et rfl rfl) (decide_eq_true c15) ?_
    refine wp_skip ?_
    refine k18 _ _ ?_
    refine seqQ fun Q20 k20 z20 => ?_
    refine blockQ fun Q21 qb21 => ?_
    refine seqQ fun Q22 k22 z22 => ?_
    obtain ⟨x16, gx16, hM1⟩ := bs hM1
    obtain ⟨x17, gx17, hM1⟩ := bs hM1
    obtain ⟨r18, gr18, hM1⟩ := bs hM1
    refine wp_drawR [0, 0, 3, 7, 0, 0, 32, 112, 240, 511] [9] 1 folM (by kernel_rfl) (by kernel_rfl) (by kernel_rfl) ?_
    replace hst := hst.drew
    refine DRn (l1 := [0, 1, 2, 3, 4, 5, 6, 7, 8]) (l2 := []) (lc := [9]) (by kernel_rfl) (by kernel_rfl) (by kernel_rfl) ?_
    refine Ry rfl rfl wn (ym (v := h2.v) (et rfl e1_0)) ?_
    refine Ry rfl rfl wn (ym (v := .int .i64 x8) (et rfl e1_3)) ?_
    refine Ry rfl rfl wn (yIa SL_22 (et rfl rfl) (et rfl rfl) hst (rdI q1) gx16) ?_
    refine Ry rfl rfl wn (yI O_3 (et rfl rfl) hst (rdI q1) gx16) ?_
    refine Ry rfl rfl wn (ym (v := h2.v) (et rfl e1_0)) ?_
    refine Ry rfl rfl wn (ym (v := .int .i64 x8) (et rfl e1_3)) ?_
    refine Ry rfl rfl wn (ysub (et rfl rfl) rfl) ?_
    refine Ry rfl rfl wn (yIa SL_22 (et rfl rfl) (et rfl rfl) hst (rdI q1) gx17) ?_
    refine Ry rfl rfl wn (yI O_3 (et rfl rfl) hst (rdI q1) gx17) ?_
    refine Rn QSn ?_
    refine Lc rfl ?_ LAn
    refine Lk wn (yCall FN_94 (a2 (et rfl rfl) (et rfl rfl))) (cmp_Less_int_ok (hM := gr18) (hst := hst) ) ?_
    clear hst
    rintro _ w ⟨rfl, hst⟩
    refine ⟨_, rfl, ?_⟩
    refine DRz (l1 := []) (l2 := []) (by kernel_rfl) (by kernel_rfl) ?_
    refine Rn QSn ?_
    refine k22 _ _ ?_
    rcases iteS hM1 with ⟨c19, hM1⟩ | ⟨c19, hM1⟩
    · refine condT (et rfl rfl) c19 ?_
      refine seqQ fun Q23 k23 z23 => ?_
      refine wp_region_lit ?_
      refine Y wn rfl (ya (v := .bool false) rfl) ?_
      refine wpList_nil ?_
      refine k23 _ _ ?_
      refine wp_ret ?_
      refine qb21 _ _ _ ?_
      refine z20 _ _ _ rfl ?_
      obtain rfl := someI hM1
      refine zz1 _ _ _ _ rfl rfl ?_
      exact je1_1 _ _ rfl hst (ho1 _ rfl)
    · refine condF (et rfl rfl) (bfalse c19) ?_
      refine wp_skip ?_
      refine qb21 _ _ _ ?_
      refine k20 _ _ ?_
      refine wp_region_lit ?_
      refine Y wn rfl (ym (v := .int .i64 x8) (et rfl e1_3)) ?_
      refine Y wn rfl (ysub (et rfl rfl) rfl) ?_
      refine Y wn rfl (ya (v := .int .i64 (ws .i64 x8 1)) (et rfl rfl)) ?_
      refine wpList_nil ?_
      obtain rfl := someI hM1
      exact n1 _ _ _ rfl ⟨_, _, rfl, rfl, e1_0, rfl, hst⟩
  · refine condF (et rfl rfl) (decide_eq_false c15) ?_
    refine wp_exit ?_
    refine z18 _ _ _ rfl ?_
    obtain rfl := someI hM1
    refine zz1 _ _ _ _ rfl rfl ?_
    exact je1_0 _ _ hst (ho1 _ rfl)

theorem matrix_columns_ok {w0 : World} {ros : List Fact} {rs : List Res} {w : World} {x1 : Int} {x2 : Int} {x3 : List Int} {x5 : List Int} {x7 : List Int} {h4 : Hdr} {h6 : Hdr} {h8 : Hdr} {out : Bool} (hM : matrix_columns x1 x2 x3 x5 x7 = some out) (q1 : imm (rI .i64) h4.v x3 ∈ ros) (q2 : imm (rI .i64) h6.v x5 ∈ ros) (q3 : imm (rI .u64) h8.v x7 ∈ ros) (hst : St w0 ros (rs) w) :
    Calls Try.prog 65 #[.agg #[.int .i64 x1, .int .i64 x2, h4.v, h6.v, h8.v]] w (fun e w => e = .returned (.bool out) ∧ St w0 (ros) (rs) w) := by
  refine enterQ Try.func65 rfl Try.ntmps65 rfl fun Q hQ => ?_
  refine seqQ fun Q1 k1 z1 => ?_
  refine wp_region_lit ?_
  refine YB wn rfl (r_box (vals := [.int .i64 x1, .int .i64 x2, h4.v, h6.v, h8.v]) hst (et rfl rfl) rfl) ?_
  clear hst
  intro b9 w hst
  refine Y wn rfl (ya (v := .bool false) rfl) ?_
  refine wpList_nil ?_
  refine k1 _ _ ?_
  refine seqQ fun Q2 k2 z2 => ?_
  refine seqQ fun Q3 k3 z3 => ?_
  obtain ⟨r10, gr10, hM⟩ := bs hM
  obtain ⟨r11, gr11, hM⟩ := bs hM
  obtain ⟨r12, gr12, hM⟩ := bs hM
  obtain ⟨r13, gr13, hM⟩ := bs hM
  refine joinN (n := 84) (fun f w => f 1 = .pointer (some ⟨b9, 0, none⟩) ∧ f 47 = .bool r13 ∧ St w0 (ros) (box b9 42 [.int .i64 x1, .int .i64 x2, h4.v, h6.v, h8.v] :: rs) w) (fun j1 => ?_) ?_
  · rcases iteS gr10 with ⟨c15, gr10⟩ | ⟨c15, gr10⟩
    · obtain ⟨x16, gx16, gr10⟩ := bs gr10
      have hr2 := someI gr10
      rcases iteS gr11 with ⟨c17, gr11⟩ | ⟨c17, gr11⟩
      · have hr3 := someI gr11
        have c18 : r11 = true := hr3.symm
        rw [if_pos c18] at gr12
        have hr4 := someI gr12
        have c19 : r12 = true := hr4.symm
        rw [if_pos c19] at gr13
        have hr5 := someI gr13
        refine wp_drawR [0, 1, 3, 0, 8, 24, 63, 127, 255, 511, 1023, 2047, 4095, 8191, 16383, 32767, 65535, 131071, 262143, 524287, 1048575, 2097151, 4194303, 2097151, 10485759, 33554431, 67108863, 2097151, 136314879, 404750335, 1073741823, 2147483647, 4294967295, 8589934591, 17179869183, 34359738367, 8589934591, 77309411327, 214748364799, 549755813887, 1099511627775] [17] 1 folM (by kernel_rfl) (by kernel_rfl) (by kernel_rfl) ?_
        replace hst := hst.drew
        refine DRn (l1 := [0, 1, 2, 3, 4, 5, 6, 7, 8, 9, 10, 11, 12, 13, 14, 15, 16]) (l2 := []) (lc := [17]) (by kernel_rfl) (by kernel_rfl) (by kernel_rfl) ?_
        refine Ry rfl rfl wn (yFb FL_42_2 (et rfl rfl)) ?_
        refine Ry rfl rfl wn (yLb (u := h4.v) O_22 (et rfl rfl) hst mhR rfl) ?_
        refine Ry rfl rfl wn (yLen SL_22 (et rfl rfl) hst (rdI q1)) ?_
        refine Ry rfl rfl wn (yFb FL_42_1 (et rfl rfl)) ?_
        refine Ry rfl rfl wn (yLb (u := .int .i64 x2) O_3 (et rfl rfl) hst mhR rfl) ?_
        refine Ry rfl rfl wn (yadd (et rfl rfl) rfl) ?_
        refine Ry rfl rfl wn (yneq (et rfl rfl) (et rfl rfl)) ?_
        refine Ry rfl rfl wn (ym (v := .bool (!(decide ((x3.length : Int) = (wa .i64 x2 1))))) (et rfl rfl)) ?_
        refine Ry rfl rfl (wg rfl rfl rfl (nF (decide_eq_true c15))) (yFb FL_42_2 (et rfl rfl)) ?_
        refine Ry rfl rfl (wg rfl rfl rfl (nF (decide_eq_true c15))) (yLb (u := h4.v) O_22 (et rfl rfl) hst mhR rfl) ?_
        refine Ry rfl rfl (wg rfl rfl rfl (nF (decide_eq_true c15))) (yIa SL_22 (et rfl rfl) rfl hst (rdI q1) gx16) ?_
        refine Ry rfl rfl (wg rfl rfl rfl (nF (decide_eq_true c15))) (yI O_3 (et rfl rfl) hst (rdI q1) gx16) ?_
        refine Ry rfl rfl (wg rfl rfl rfl (nF (decide_eq_true c15))) (yneq (et rfl rfl) rfl) ?_
        refine Ry rfl rfl wn (ypf (v := .bool r10) (et rfl rfl) (nF (decide_eq_true c15)) (eqv hr2 (et rfl rfl))) ?_
        refine Ry rfl rfl wn (ym (v := .bool r10) (et rfl rfl)) ?_
        refine Rx rfl rfl (wx rfl rfl rfl c17) ?_
        refine Rx rfl rfl (wx rfl rfl rfl c17) ?_
        refine Rn QSn ?_
        refine Lc rfl ?_ LAn
        refine Lx (wx rfl rfl rfl c17) ?_
        refine DRz (l1 := [18, 19, 20, 21, 22, 23, 24, 25, 26, 27, 28, 29, 30, 31, 32, 33, 34, 35, 36, 37, 38, 39, 40]) (l2 := []) (by kernel_rfl) (by kernel_rfl) ?_
        refine Rx rfl rfl (wx rfl rfl rfl c17) ?_
        refine Ry rfl rfl wn (ypt (v := .bool r11) (et rfl rfl) c17 (eqv hr3 rfl)) ?_
        refine Ry rfl rfl wn (ym (v := .bool r11) (et rfl rfl)) ?_
        refine Rx rfl rfl (wx rfl rfl rfl c18) ?_
        refine Rx rfl rfl (wx rfl rfl rfl c18) ?_
        refine Rx rfl rfl (wx rfl rfl rfl c18) ?_
        refine Rx rfl rfl (wx rfl rfl rfl c18) ?_
        refine Rx rfl rfl (wx rfl rfl rfl c18) ?_
        refine Rx rfl rfl (wx rfl rfl rfl c18) ?_
        refine Rx rfl rfl (wx rfl rfl rfl c18) ?_
        refine Rx rfl rfl (wx rfl rfl rfl c18) ?_
        refine Rx rfl rfl (wx rfl rfl rfl c18) ?_
        refine Rx rfl rfl (wx rfl rfl rfl c18) ?_
        refine Ry rfl rfl wn (ypt (v := .bool r12) (et rfl rfl) c18 (eqv hr4 rfl)) ?_
        refine Ry rfl rfl wn (ym (v := .bool r12) (et rfl rfl)) ?_
        refine Rx rfl rfl (wx rfl rfl rfl c19) ?_
        refine Rx rfl rfl (wx rfl rfl rfl c19) ?_
        refine Rx rfl rfl (wx rfl rfl rfl c19) ?_
        refine Rx rfl rfl (wx rfl rfl rfl c19) ?_
        refine Rx rfl rfl (wx rfl rfl rfl c19) ?_
        refine Rx rfl rfl (wx rfl rfl rfl c19) ?_
        refine Rx rfl rfl (wx rfl rfl rfl c19) ?_
        refine Ry rfl rfl wn (ypt (v := .bool r13) (et rfl rfl) c19 (eqv hr5 rfl)) ?_
        refine Rn QSn ?_
        exact j1 _ _ ⟨rfl, rfl, hst⟩
      · obtain ⟨r20, gr20, gr11⟩ := bs gr11
        have hr6 := someI gr11
        rcases iteS gr12 with ⟨c21, gr12⟩ | ⟨c21, gr12⟩
        · have hr7 := someI gr12
          have c22 : r12 = true := hr7.symm
          rw [if_pos c22] at gr13
          have hr8 := someI gr13
          refine wp_drawR [0, 1, 3, 0, 8, 24, 63, 127, 255, 511, 1023, 2047, 4095, 8191, 16383, 32767, 65535, 131071, 262143, 524287, 1048575, 2097151, 4194303, 2097151, 10485759, 33554431, 67108863, 2097151, 136314879, 404750335, 1073741823, 2147483647, 4294967295, 8589934591, 17179869183, 34359738367, 8589934591, 77309411327, 214748364799, 549755813887, 1099511627775] [17] 1 folM (by kernel_rfl) (by kernel_rfl) (by kernel_rfl) ?_
          replace hst := hst.drew
          refine DRn (l1 := [0, 1, 2, 3, 4, 5, 6, 7, 8, 9, 10, 11, 12, 13, 14, 15, 16]) (l2 := []) (lc := [17]) (by kernel_rfl) (by kernel_rfl) (by kernel_rfl) ?_
          refine Ry rfl rfl wn (yFb FL_42_2 (et rfl rfl)) ?_
          refine Ry rfl rfl wn (yLb (u := h4.v) O_22 (et rfl rfl) hst mhR rfl) ?_
          refine Ry rfl rfl wn (yLen SL_22 (et rfl rfl) hst (rdI q1)) ?_
          refine Ry rfl rfl wn (yFb FL_42_1 (et rfl rfl)) ?_
          refine Ry rfl rfl wn (yLb (u := .int .i64 x2) O_3 (et rfl rfl) hst mhR rfl) ?_
          refine Ry rfl rfl wn (yadd (et rfl rfl) rfl) ?_
          refine Ry rfl rfl wn (yneq (et rfl rfl) (et rfl rfl)) ?_
          refine Ry rfl rfl wn (ym (v := .bool (!(decide ((x3.length : Int) = (wa .i64 x2 1))))) (et rfl rfl)) ?_
          refine Ry rfl rfl (wg rfl rfl rfl (nF (decide_eq_true c15))) (yFb FL_42_2 (et rfl rfl)) ?_
          refine Ry rfl rfl (wg rfl rfl rfl (nF (decide_eq_true c15))) (yLb (u := h4.v) O_22 (et rfl rfl) hst mhR rfl) ?_
          refine Ry rfl rfl (wg rfl rfl rfl (nF (decide_eq_true c15))) (yIa SL_22 (et rfl rfl) rfl hst (rdI q1) gx16) ?_
          refine Ry rfl rfl (wg rfl rfl rfl (nF (decide_eq_true c15))) (yI O_3 (et rfl rfl) hst (rdI q1) gx16) ?_
          refine Ry rfl rfl (wg rfl rfl rfl (nF (decide_eq_true c15))) (yneq (et rfl rfl) rfl) ?_
          refine Ry rfl rfl wn (ypf (v := .bool r10) (et rfl rfl) (nF (decide_eq_true c15)) (eqv hr2 (et rfl rfl))) ?_
          refine Ry rfl rfl wn (ym (v := .bool r10) (et rfl rfl)) ?_
          refine Ry rfl rfl (wg rfl rfl rfl (bfalse c17)) (yFb FL_42_2 (et rfl rfl)) ?_
          refine Ry rfl rfl (wg rfl rfl rfl (bfalse c17)) (yLb (u := h4.v) O_22 (et rfl rfl) hst mhR rfl) ?_
          refine Rn QSn ?_
          refine Lc rfl ?_ LAn
          refine Lk (wg rfl rfl rfl (bfalse c17)) (yCall FN_84 (a1 (et rfl rfl))) (slices_IsSorted_int_ok (hM := gr20) (hst := hst) (q1 := q1)) ?_
          clear hst
          rintro _ w ⟨rfl, hst⟩
          refine ⟨_, rfl, ?_⟩
          refine DRz (l1 := [18, 19, 20, 21, 22, 23, 24, 25, 26, 27, 28, 29, 30, 31, 32, 33, 34, 35, 36, 37, 38, 39, 40]) (l2 := []) (by kernel_rfl) (by kernel_rfl) ?_
          refine Ry rfl rfl (wg rfl rfl rfl (bfalse c17)) (ynot (et rfl rfl)) ?_
          refine Ry rfl rfl wn (ypf (v := .bool r11) (et rfl rfl) (bfalse c17) (eqv hr6 (et rfl rfl))) ?_
          refine Ry rfl rfl wn (ym (v := .bool r11) (et rfl rfl)) ?_
          refine Rx rfl rfl (wx rfl rfl rfl c21) ?_
          refine Rx rfl rfl (wx rfl rfl rfl c21) ?_
          refine Rx rfl rfl (wx rfl rfl rfl c21) ?_
          refine Rx rfl rfl (wx rfl rfl rfl c21) ?_
          refine Rx rfl rfl (wx rfl rfl rfl c21) ?_
          refine Rx rfl rfl (wx rfl rfl rfl c21) ?_
          refine Rx rfl rfl (wx rfl rfl rfl c21) ?_
          refine Rx rfl rfl (wx rfl rfl rfl c21) ?_
          refine Rx rfl rfl (wx rfl rfl rfl c21) ?_
          refine Rx rfl rfl (wx rfl rfl rfl c21) ?_
          refine Ry rfl rfl wn (ypt (v := .bool r12) (et rfl rfl) c21 (eqv hr7 rfl)) ?_
          refine Ry rfl rfl wn (ym (v := .bool r12) (et rfl rfl)) ?_
          refine Rx rfl rfl (wx rfl rfl rfl c22) ?_
          refine Rx rfl rfl (wx rfl rfl rfl c22) ?_
          refine Rx rfl rfl (wx rfl rfl rfl c22) ?_
          refine Rx rfl rfl (wx rfl rfl rfl c22) ?_
          refine Rx rfl rfl (wx rfl rfl rfl c22) ?_
          refine Rx rfl rfl (wx rfl rfl rfl c22) ?_
          refine Rx rfl rfl (wx rfl rfl rfl c22) ?_
          refine Ry rfl rfl wn (ypt (v := .bool r13) (et rfl rfl) c22 (eqv hr8 rfl)) ?_
          refine Rn QSn ?_
          exact j1 _ _ ⟨rfl, rfl, hst⟩
        · obtain ⟨x23, gx23, gr12⟩ := bs gr12
          have hr9 := someI gr12
          rcases iteS gr13 with ⟨c24, gr13⟩ | ⟨c24, gr13⟩
          · have hr10 := someI gr13
            refine wp_drawR [0, 1, 3, 0, 8, 24, 63, 127, 255, 511, 1023, 2047, 4095, 8191, 16383, 32767, 65535, 131071, 262143, 524287, 1048575, 2097151, 4194303, 2097151, 10485759, 33554431, 67108863, 2097151, 136314879, 404750335, 1073741823, 2147483647, 4294967295, 8589934591, 17179869183, 34359738367, 8589934591, 77309411327, 214748364799, 549755813887, 1099511627775] [17] 1 folM (by kernel_rfl) (by kernel_rfl) (by kernel_rfl) ?_
            replace hst := hst.drew
            refine DRn (l1 := [0, 1, 2, 3, 4, 5, 6, 7, 8, 9, 10, 11, 12, 13, 14, 15, 16]) (l2 := []) (lc := [17]) (by kernel_rfl) (by kernel_rfl) (by kernel_rfl) ?_
            refine Ry rfl rfl wn (yFb FL_42_2 (et rfl rfl)) ?_
            refine Ry rfl rfl wn (yLb (u := h4.v) O_22 (et rfl rfl) hst mhR rfl) ?_
            refine Ry rfl rfl wn (yLen SL_22 (et rfl rfl) hst (rdI q1)) ?_
            refine Ry rfl rfl wn (yFb FL_42_1 (et rfl rfl)) ?_
            refine Ry rfl rfl wn (yLb (u := .int .i64 x2) O_3 (et rfl rfl) hst mhR rfl) ?_
            refine Ry rfl rfl wn (yadd (et rfl rfl) rfl) ?_
            refine Ry rfl rfl wn (yneq (et rfl rfl) (et rfl rfl)) ?_
            refine Ry rfl rfl wn (ym (v := .bool (!(decide ((x3.length : Int) = (wa .i64 x2 1))))) (et rfl rfl)) ?_
            refine Ry rfl rfl (wg rfl rfl rfl (nF (decide_eq_true c15))) (yFb FL_42_2 (et rfl rfl)) ?_
            refine Ry rfl rfl (wg rfl rfl rfl (nF (decide_eq_true c15))) (yLb (u := h4.v) O_22 (et rfl rfl) hst mhR rfl) ?_
            refine Ry rfl rfl (wg rfl rfl rfl (nF (decide_eq_true c15))) (yIa SL_22 (et rfl rfl) rfl hst (rdI q1) gx16) ?_
            refine Ry rfl rfl (wg rfl rfl rfl (nF (decide_eq_true c15))) (yI O_3 (et rfl rfl) hst (rdI q1) gx16) ?_
            refine Ry rfl rfl (wg rfl rfl rfl (nF (decide_eq_true c15))) (yneq (et rfl rfl) rfl) ?_
            refine Ry rfl rfl wn (ypf (v := .bool r10) (et rfl rfl) (nF (decide_eq_true c15)) (eqv hr2 (et rfl rfl))) ?_
            refine Ry rfl rfl wn (ym (v := .bool r10) (et rfl rfl)) ?_
            refine Ry rfl rfl (wg rfl rfl rfl (bfalse c17)) (yFb FL_42_2 (et rfl rfl)) ?_
            refine Ry rfl rfl (wg rfl rfl rfl (bfalse c17)) (yLb (u := h4.v) O_22 (et rfl rfl) hst mhR rfl) ?_
            refine Rn QSn ?_
            refine Lc rfl ?_ LAn
            refine Lk (wg rfl rfl rfl (bfalse c17)) (yCall FN_84 (a1 (et rfl rfl))) (slices_IsSorted_int_ok (hM := gr20) (hst := hst) (q1 := q1)) ?_
            clear hst
            rintro _ w ⟨rfl, hst⟩
            refine ⟨_, rfl, ?_⟩
            refine DRz (l1 := [18, 19, 20, 21, 22, 23, 24, 25, 26, 27, 28, 29, 30, 31, 32, 33, 34, 35, 36, 37, 38, 39, 40]) (l2 := []) (by kernel_rfl) (by kernel_rfl) ?_
            refine Ry rfl rfl (wg rfl rfl rfl (bfalse c17)) (ynot (et rfl rfl)) ?_
            refine Ry rfl rfl wn (ypf (v := .bool r11) (et rfl rfl) (bfalse c17) (eqv hr6 (et rfl rfl))) ?_
            refine Ry rfl rfl wn (ym (v := .bool r11) (et rfl rfl)) ?_
            refine Ry rfl rfl (wg rfl rfl rfl (bfalse c21)) (yFb FL_42_2 (et rfl rfl)) ?_
            refine Ry rfl rfl (wg rfl rfl rfl (bfalse c21)) (yLb (u := h4.v) O_22 (et rfl rfl) hst mhR rfl) ?_
            refine Ry rfl rfl (wg rfl rfl rfl (bfalse c21)) (yFb FL_42_1 (et rfl rfl)) ?_
            refine Ry rfl rfl (wg rfl rfl rfl (bfalse c21)) (yLb (u := .int .i64 x2) O_3 (et rfl rfl) hst mhR rfl) ?_
            refine Ry rfl rfl (wg rfl rfl rfl (bfalse c21)) (yIa SL_22 (et rfl rfl) (et rfl rfl) hst (rdI q1) gx23) ?_
            refine Ry rfl rfl (wg rfl rfl rfl (bfalse c21)) (yI O_3 (et rfl rfl) hst (rdI q1) gx23) ?_
            refine Ry rfl rfl (wg rfl rfl rfl (bfalse c21)) (yFb FL_42_3 (et rfl rfl)) ?_
            refine Ry rfl rfl (wg rfl rfl rfl (bfalse c21)) (yLb (u := h6.v) O_22 (et rfl rfl) hst mhR rfl) ?_
            refine Ry rfl rfl (wg rfl rfl rfl (bfalse c21)) (yLen SL_22 (et rfl rfl) hst (rdI q2)) ?_
            refine Ry rfl rfl (wg rfl rfl rfl (bfalse c21)) (yneq (et rfl rfl) (et rfl rfl)) ?_
            refine Ry rfl rfl wn (ypf (v := .bool r12) (et rfl rfl) (bfalse c21) (eqv hr9 (et rfl rfl))) ?_
            refine Ry rfl rfl wn (ym (v := .bool r12) (et rfl rfl)) ?_
            refine Rx rfl rfl (wx rfl rfl rfl c24) ?_
            refine Rx rfl rfl (wx rfl rfl rfl c24) ?_
            refine Rx rfl rfl (wx rfl rfl rfl c24) ?_
            refine Rx rfl rfl (wx rfl rfl rfl c24) ?_
            refine Rx rfl rfl (wx rfl rfl rfl c24) ?_
            refine Rx rfl rfl (wx rfl rfl rfl c24) ?_
            refine Rx rfl rfl (wx rfl rfl rfl c24) ?_
            refine Ry rfl rfl wn (ypt (v := .bool r13) (et rfl rfl) c24 (eqv hr10 rfl)) ?_
            refine Rn QSn ?_
            exact j1 _ _ ⟨rfl, rfl, hst⟩
          · have hr11 := someI gr13
            refine wp_drawR [0, 1, 3, 0, 8, 24, 63, 127, 255, 511, 1023, 2047, 4095, 8191, 16383, 32767, 65535, 131071, 262143, 524287, 1048575, 2097151, 4194303, 2097151, 10485759, 33554431, 67108863, 2097151, 136314879, 404750335, 1073741823, 2147483647, 4294967295, 8589934591, 17179869183, 34359738367, 8589934591, 77309411327, 214748364799, 549755813887, 1099511627775] [17] 1 folM (by kernel_rfl) (by kernel_rfl) (by kernel_rfl) ?_
            replace hst := hst.drew
            refine DRn (l1 := [0, 1, 2, 3, 4, 5, 6, 7, 8, 9, 10, 11, 12, 13, 14, 15, 16]) (l2 := []) (lc := [17]) (by kernel_rfl) (by kernel_rfl) (by kernel_rfl) ?_
            refine Ry rfl rfl wn (yFb FL_42_2 (et rfl rfl)) ?_
            refine Ry rfl rfl wn (yLb (u := h4.v) O_22 (et rfl rfl) hst mhR rfl) ?_
            refine Ry rfl rfl wn (yLen SL_22 (et rfl rfl) hst (rdI q1)) ?_
            refine Ry rfl rfl wn (yFb FL_42_1 (et rfl rfl)) ?_
            refine Ry rfl rfl wn (yLb (u := .int .i64 x2) O_3 (et rfl rfl) hst mhR rfl) ?_
            refine Ry rfl rfl wn (yadd (et rfl rfl) rfl) ?_
            refine Ry rfl rfl wn (yneq (et rfl rfl) (et rfl rfl)) ?_
            refine Ry rfl rfl wn (ym (v := .bool (!(decide ((x3.length : Int) = (wa .i64 x2 1))))) (et rfl rfl)) ?_
            refine Ry rfl rfl (wg rfl rfl rfl (nF (decide_eq_true c15))) (yFb FL_42_2 (et rfl rfl)) ?_
            refine Ry rfl rfl (wg rfl rfl rfl (nF (decide_eq_true c15))) (yLb (u := h4.v) O_22 (et rfl rfl) hst mhR rfl) ?_
            refine Ry rfl rfl (wg rfl rfl rfl (nF (decide_eq_true c15))) (yIa SL_22 (et rfl rfl) rfl hst (rdI q1) gx16) ?_
            refine Ry rfl rfl (wg rfl rfl rfl (nF (decide_eq_true c15))) (yI O_3 (et rfl rfl) hst (rdI q1) gx16) ?_
            refine Ry rfl rfl (wg rfl rfl rfl (nF (decide_eq_true c15))) (yneq (et rfl rfl) rfl) ?_
            refine Ry rfl rfl wn (ypf (v := .bool r10) (et rfl rfl) (nF (decide_eq_true c15)) (eqv hr2 (et rfl rfl))) ?_
            refine Ry rfl rfl wn (ym (v := .bool r10) (et rfl rfl)) ?_
            refine Ry rfl rfl (wg rfl rfl rfl (bfalse c17)) (yFb FL_42_2 (et rfl rfl)) ?_
            refine Ry rfl rfl (wg rfl rfl rfl (bfalse c17)) (yLb (u := h4.v) O_22 (et rfl rfl) hst mhR rfl) ?_
            refine Rn QSn ?_
            refine Lc rfl ?_ LAn
            refine Lk (wg rfl rfl rfl (bfalse c17)) (yCall FN_84 (a1 (et rfl rfl))) (slices_IsSorted_int_ok (hM := gr20) (hst := hst) (q1 := q1)) ?_
            clear hst
            rintro _ w ⟨rfl, hst⟩
            refine ⟨_, rfl, ?_⟩
            refine DRz (l1 := [18, 19, 20, 21, 22, 23, 24, 25, 26, 27, 28, 29, 30, 31, 32, 33, 34, 35, 36, 37, 38, 39, 40]) (l2 := []) (by kernel_rfl) (by kernel_rfl) ?_
            refine Ry rfl rfl (wg rfl rfl rfl (bfalse c17)) (ynot (et rfl rfl)) ?_
            refine Ry rfl rfl wn (ypf (v := .bool r11) (et rfl rfl) (bfalse c17) (eqv hr6 (et rfl rfl))) ?_
            refine Ry rfl rfl wn (ym (v := .bool r11) (et rfl rfl)) ?_
            refine Ry rfl rfl (wg rfl rfl rfl (bfalse c21)) (yFb FL_42_2 (et rfl rfl)) ?_
            refine Ry rfl rfl (wg rfl rfl rfl (bfalse c21)) (yLb (u := h4.v) O_22 (et rfl rfl) hst mhR rfl) ?_
            refine Ry rfl rfl (wg rfl rfl rfl (bfalse c21)) (yFb FL_42_1 (et rfl rfl)) ?_
            refine Ry rfl rfl (wg rfl rfl rfl (bfalse c21)) (yLb (u := .int .i64 x2) O_3 (et rfl rfl) hst mhR rfl) ?_
            refine Ry rfl rfl (wg rfl rfl rfl (bfalse c21)) (yIa SL_22 (et rfl rfl) (et rfl rfl) hst (rdI q1) gx23) ?_
            refine Ry rfl rfl (wg rfl rfl rfl (bfalse c21)) (yI O_3 (et rfl rfl) hst (rdI q1) gx23) ?_
            refine Ry rfl rfl (wg rfl rfl rfl (bfalse c21)) (yFb FL_42_3 (et rfl rfl)) ?_
            refine Ry rfl rfl (wg rfl rfl rfl (bfalse c21)) (yLb (u := h6.v) O_22 (et rfl rfl) hst mhR rfl) ?_
            refine Ry rfl rfl (wg rfl rfl rfl (bfalse c21)) (yLen SL_22 (et rfl rfl) hst (rdI q2)) ?_
            refine Ry rfl rfl (wg rfl rfl rfl (bfalse c21)) (yneq (et rfl rfl) (et rfl rfl)) ?_
            refine Ry rfl rfl wn (ypf (v := .bool r12) (et rfl rfl) (bfalse c21) (eqv hr9 (et rfl rfl))) ?_
            refine Ry rfl rfl wn (ym (v := .bool r12) (et rfl rfl)) ?_
            refine Ry rfl rfl (wg rfl rfl rfl (bfalse c24)) (yFb FL_42_3 (et rfl rfl)) ?_
            refine Ry rfl rfl (wg rfl rfl rfl (bfalse c24)) (yLb (u := h6.v) O_22 (et rfl rfl) hst mhR rfl) ?_
            refine Ry rfl rfl (wg rfl rfl rfl (bfalse c24)) (yLen SL_22 (et rfl rfl) hst (rdI q2)) ?_
            refine Ry rfl rfl (wg rfl rfl rfl (bfalse c24)) (yFb FL_42_4 (et rfl rfl)) ?_
            refine Ry rfl rfl (wg rfl rfl rfl (bfalse c24)) (yLb (u := h8.v) O_40 (et rfl rfl) hst mhR rfl) ?_
            refine Ry rfl rfl (wg rfl rfl rfl (bfalse c24)) (yLen SL_40 (et rfl rfl) hst (rdI q3)) ?_
            refine Ry rfl rfl (wg rfl rfl rfl (bfalse c24)) (yneq (et rfl rfl) (et rfl rfl)) ?_
            refine Ry rfl rfl wn (ypf (v := .bool r13) (et rfl rfl) (bfalse c24) (eqv hr11 (et rfl rfl))) ?_
            refine Rn QSn ?_
            exact j1 _ _ ⟨rfl, rfl, hst⟩
    · have hr12 := someI gr10
      have c25 : r10 = true := hr12.symm
      rw [if_pos c25] at gr11
      have hr13 := someI gr11
      have c26 : r11 = true := hr13.symm
      rw [if_pos c26] at gr12
      have hr14 := someI gr12
      have c27 : r12 = true := hr14.symm
      rw [if_pos c27] at gr13
      have hr15 := someI gr13
      refine wp_drawR [0, 1, 3, 0, 8, 24, 63, 127, 255, 511, 1023, 2047, 4095, 8191, 16383, 32767, 65535, 131071, 262143, 524287, 1048575, 2097151, 4194303, 2097151, 10485759, 33554431, 67108863, 2097151, 136314879, 404750335, 1073741823, 2147483647, 4294967295, 8589934591, 17179869183, 34359738367, 8589934591, 77309411327, 214748364799, 549755813887, 1099511627775] [17] 1 folM (by kernel_rfl) (by kernel_rfl) (by kernel_rfl) ?_
      replace hst := hst.drew
      refine DRn (l1 := [0, 1, 2, 3, 4, 5, 6, 7, 8, 9, 10, 11, 12, 13, 14, 15, 16]) (l2 := []) (lc := [17]) (by kernel_rfl) (by kernel_rfl) (by kernel_rfl) ?_
      refine Ry rfl rfl wn (yFb FL_42_2 (et rfl rfl)) ?_
      refine Ry rfl rfl wn (yLb (u := h4.v) O_22 (et rfl rfl) hst mhR rfl) ?_
      refine Ry rfl rfl wn (yLen SL_22 (et rfl rfl) hst (rdI q1)) ?_
      refine Ry rfl rfl wn (yFb FL_42_1 (et rfl rfl)) ?_
      refine Ry rfl rfl wn (yLb (u := .int .i64 x2) O_3 (et rfl rfl) hst mhR rfl) ?_
      refine Ry rfl rfl wn (yadd (et rfl rfl) rfl) ?_
      refine Ry rfl rfl wn (yneq (et rfl rfl) (et rfl rfl)) ?_
      refine Ry rfl rfl wn (ym (v := .bool (!(decide ((x3.length : Int) = (wa .i64 x2 1))))) (et rfl rfl)) ?_
      refine Rx rfl rfl (wx rfl rfl rfl (nT (decide_eq_false c15))) ?_
      refine Rx rfl rfl (wx rfl rfl rfl (nT (decide_eq_false c15))) ?_
      refine Rx rfl rfl (wx rfl rfl rfl (nT (decide_eq_false c15))) ?_
      refine Rx rfl rfl (wx rfl rfl rfl (nT (decide_eq_false c15))) ?_
      refine Rx rfl rfl (wx rfl rfl rfl (nT (decide_eq_false c15))) ?_
      refine Ry rfl rfl wn (ypt (v := .bool r10) (et rfl rfl) (nT (decide_eq_false c15)) (eqv hr12 rfl)) ?_
      refine Ry rfl rfl wn (ym (v := .bool r10) (et rfl rfl)) ?_
      refine Rx rfl rfl (wx rfl rfl rfl c25) ?_
      refine Rx rfl rfl (wx rfl rfl rfl c25) ?_
      refine Rn QSn ?_
      refine Lc rfl ?_ LAn
      refine Lx (wx rfl rfl rfl c25) ?_
      refine DRz (l1 := [18, 19, 20, 21, 22, 23, 24, 25, 26, 27, 28, 29, 30, 31, 32, 33, 34, 35, 36, 37, 38, 39, 40]) (l2 := []) (by kernel_rfl) (by kernel_rfl) ?_
      refine Rx rfl rfl (wx rfl rfl rfl c25) ?_
      refine Ry rfl rfl wn (ypt (v := .bool r11) (et rfl rfl) c25 (eqv hr13 rfl)) ?_
      refine Ry rfl rfl wn (ym (v := .bool r11) (et rfl rfl)) ?_
      refine Rx rfl rfl (wx rfl rfl rfl c26) ?_
      refine Rx rfl rfl (wx rfl rfl rfl c26) ?_
      refine Rx rfl rfl (wx rfl rfl rfl c26) ?_
      refine Rx rfl rfl (wx rfl rfl rfl c26) ?_
      refine Rx rfl rfl (wx rfl rfl rfl c26) ?_
      refine Rx rfl rfl (wx rfl rfl rfl c26) ?_
      refine Rx rfl rfl (wx rfl rfl rfl c26) ?_
      refine Rx rfl rfl (wx rfl rfl rfl c26) ?_
      refine Rx rfl rfl (wx rfl rfl rfl c26) ?_
      refine Rx rfl rfl (wx rfl rfl rfl c26) ?_
      refine Ry rfl rfl wn (ypt (v := .bool r12) (et rfl rfl) c26 (eqv hr14 rfl)) ?_
      refine Ry rfl rfl wn (ym (v := .bool r12) (et rfl rfl)) ?_
      refine Rx rfl rfl (wx rfl rfl rfl c27) ?_
      refine Rx rfl rfl (wx rfl rfl rfl c27) ?_
      refine Rx rfl rfl (wx rfl rfl rfl c27) ?_
      refine Rx rfl rfl (wx rfl rfl rfl c27) ?_
      refine Rx rfl rfl (wx rfl rfl rfl c27) ?_
      refine Rx rfl rfl (wx rfl rfl rfl c27) ?_
      refine Rx rfl rfl (wx rfl rfl rfl c27) ?_
      refine Ry rfl rfl wn (ypt (v := .bool r13) (et rfl rfl) c27 (eqv hr15 rfl)) ?_
      refine Rn QSn ?_
      exact j1 _ _ ⟨rfl, rfl, hst⟩
  clear hst
  rintro f w ⟨e14_1, e14_47, hst⟩
  refine k3 _ _ ?_
  rcases iteS hM with ⟨c28, hM⟩ | ⟨c28, hM⟩
  · refine condT (et rfl e14_47) c28 ?_
    refine seqQ fun Q4 k4 z4 => ?_
    refine wp_region_lit ?_
    refine Y wn rfl (ya (v := .bool false) rfl) ?_
    refine wpList_nil ?_
    refine k4 _ _ ?_
    refine wp_ret ?_
    refine z2 _ _ _ rfl ?_
    obtain rfl := someI hM
    exact hQ _ _ _ (fin1r Try.results65 ⟨rfl, rfl⟩ ⟨rfl, (hst.pk 1 [] rfl)⟩)
  · refine condF (et rfl e14_47) (bfalse c28) ?_
    refine wp_skip ?_
    refine k2 _ _ ?_
    refine seqQ fun Q5 k5 z5 => ?_
    refine seqQ fun Q6 k6 z6 => ?_
    refine wp_region_lit ?_
    refine Y wn rfl (yFb FL_42_1 (et rfl e14_1)) ?_
    refine Y wn rfl (yLb (u := .int .i64 x2) O_3 (et rfl rfl) hst mhR rfl) ?_
    refine Y wn rfl (ym (v := .int .i64 0) rfl) ?_
    refine wpList_nil ?_
    refine k6 _ _ ?_
    refine blockQ fun Q7 qb7 => ?_
    obtain ⟨o24, go24, hM⟩ := bs hM
    have je24_0 : ∀ (f : Nat → Value) (w : World), St w0 (ros) (rs) w → .inl () = o24 → Q7 (.exit 0) (fr 84 f) w := by
      intro f w hst ho
      subst ho
      refine qb7 _ _ _ ?_
      refine k5 _ _ ?_
      refine seqQ fun Q72 k72 z72 => ?_
      refine wp_region_lit ?_
      refine Y wn rfl (ya (v := .bool true) rfl) ?_
      refine wpList_nil ?_
      refine k72 _ _ ?_
      refine wp_ret ?_
      obtain rfl := someI hM
      exact hQ _ _ _ (fin1r Try.results65 ⟨rfl, rfl⟩ ⟨rfl, hst⟩)
    have je24_1 : ∀ (f : Nat → Value) (w : World), f 2 = .bool false → St w0 (ros) (rs) w → .inr () = o24 → Q7 .ret (fr 84 f) w := by
      intro f w eje24_1_2 hst ho
      subst ho
      refine qb7 _ _ _ ?_
      refine z5 _ _ _ rfl ?_
      obtain rfl := someI hM
      exact hQ _ _ _ (fin1r Try.results65 ⟨rfl, eje24_1_2⟩ ⟨rfl, hst⟩)
    refine loopQ (fun s a w => ∃ (x52 : Int) (f : Nat → Value), x52 = s ∧ a = fr 84 f ∧ f 1 = .pointer (some ⟨b9, 0, none⟩) ∧ f 49 = .int .i64 x2 ∧ f 50 = .int .i64 x52 ∧ St w0 (ros) (box b9 42 [.int .i64 x1, .int .i64 x2, h4.v, h6.v, h8.v] :: rs) w) go24 ⟨_, _, rfl, rfl, e14_1, rfl, rfl, hst⟩ ?_
    clear hst
    rintro _ _ w r24_ ⟨x52, f, rfl, rfl, e24_1, e24_49, e24_50, hst⟩ hM24 ho24 Q100024 n24 zz24
    refine seqQ fun Q73 k73 z73 => ?_
    refine wp_region_lit ?_
    refine Y wn rfl (ylss (et rfl e24_50) (et rfl e24_49)) ?_
    refine wpList_nil ?_
    refine k73 _ _ ?_
    refine seqQ fun Q74 k74 z74 => ?_
    rcases iteS hM24 with ⟨c77, hM24⟩ | ⟨c77, hM24⟩
    · refine condT (et rfl rfl) (decide_eq_true c77) ?_
      refine wp_skip ?_
      refine k74 _ _ ?_
      refine seqQ fun Q75 k75 z75 => ?_
      refine blockQ fun Q76 qb76 => ?_
      refine seqQ fun Q77 k77 z77 => ?_
      refine wp_region_lit ?_
      refine Y wn rfl (ym (v := .int .i64 x52) (et rfl e24_50)) ?_
      refine Y wn rfl (ya (v := .int .i64 x52) (et rfl rfl)) ?_
      refine wpList_nil ?_
      refine k77 _ _ ?_
      refine seqQ fun Q78 k78 z78 => ?_
      refine wp_region_lit ?_
      refine Y wn rfl (ya (v := .int .i64 (-1)) rfl) ?_
      refine wpList_nil ?_
      refine k78 _ _ ?_
      refine seqQ fun Q79 k79 z79 => ?_
      obtain ⟨x78, gx78, hM24⟩ := bs hM24
      obtain ⟨x79, gx79, hM24⟩ := bs hM24
      obtain ⟨x80, gx80, hM24⟩ := bs hM24
      refine wp_drawR [0, 1, 0, 4, 0, 28, 60, 0, 128, 0, 512, 1920, 3968, 8191, 16383, 0] [] 0 folM (by kernel_rfl) (by kernel_rfl) (by kernel_rfl) ?_
      replace hst := hst.drew
      refine DRz (l1 := [0, 1, 2, 3, 4, 5, 6, 7, 8, 9, 10, 11, 12, 13, 14, 15]) (l2 := []) (by kernel_rfl) (by kernel_rfl) ?_
      refine Ry rfl rfl wn (yFb FL_42_3 (et rfl e24_1)) ?_
      refine Ry rfl rfl wn (yLb (u := h6.v) O_22 (et rfl rfl) hst mhR rfl) ?_
      refine Ry rfl rfl wn (yFb FL_42_2 (et rfl e24_1)) ?_
      refine Ry rfl rfl wn (yLb (u := h4.v) O_22 (et rfl rfl) hst mhR rfl) ?_
      refine Ry rfl rfl wn (ym (v := .int .i64 x52) (et rfl rfl)) ?_
      refine Ry rfl rfl wn (yIa SL_22 (et rfl rfl) (et rfl rfl) hst (rdI q1) gx78) ?_
      refine Ry rfl rfl wn (yI O_3 (et rfl rfl) hst (rdI q1) gx78) ?_
      refine Ry rfl rfl wn (yFb FL_42_2 (et rfl e24_1)) ?_
      refine Ry rfl rfl wn (yLb (u := h4.v) O_22 (et rfl rfl) hst mhR rfl) ?_
      refine Ry rfl rfl wn (ym (v := .int .i64 x52) (et rfl rfl)) ?_
      refine Ry rfl rfl wn (yadd (et rfl rfl) rfl) ?_
      refine Ry rfl rfl wn (yIa SL_22 (et rfl rfl) (et rfl rfl) hst (rdI q1) gx79) ?_
      refine Ry rfl rfl wn (yI O_3 (et rfl rfl) hst (rdI q1) gx79) ?_
      refine Ry rfl rfl wn (ySl SL_22 (et rfl rfl) hst (rdI q2) (.inl (congrArg some (et rfl rfl))) (.inl (congrArg some (et rfl rfl))) gx80) ?_
      replace hst := hst.sub q2 gx80
      refine Ry rfl rfl wn (yLen SL_22 (et rfl rfl) hst (rdI mhF)) ?_
      refine Ry rfl rfl wn (ym (v := .int .i64 0) rfl) ?_
      refine Rn QSn ?_
      refine k79 _ _ ?_
      refine blockQ fun Q80 qb80 => ?_
      obtain ⟨o27, go27, hM24⟩ := bs hM24
      have je27_0 : ∀ (f : Nat → Value) (w : World), f 1 = .pointer (some ⟨b9, 0, none⟩) → f 49 = .int .i64 x2 → f 50 = .int .i64 x52 → St w0 (ros) (box b9 42 [.int .i64 x1, .int .i64 x2, h4.v, h6.v, h8.v] :: rs) w → .inl () = o27 → Q80 (.exit 2) (fr 84 f) w := by
        intro f w eje27_0_1 eje27_0_49 eje27_0_50 hst ho
        subst ho
        refine qb80 _ _ _ ?_
        refine qb76 _ _ _ ?_
        refine k75 _ _ ?_
        refine wp_region_lit ?_
        refine Y wn rfl (yadd (et rfl eje27_0_50) rfl) ?_
        refine Y wn rfl (ym (v := .int .i64 (wa .i64 x52 1)) (et rfl rfl)) ?_
        refine wpList_nil ?_
        obtain rfl := someI hM24
        exact n24 _ _ _ rfl ⟨_, _, rfl, rfl, eje27_0_1, eje27_0_49, rfl, hst⟩
      have je27_1 : ∀ (f : Nat → Value) (w : World), f 2 = .bool false → St w0 (ros) (rs) w → .inr () = o27 → Q80 .ret (fr 84 f) w := by
        intro f w eje27_1_2 hst ho
        subst ho
        refine qb80 _ _ _ ?_
        refine qb76 _ _ _ ?_
        refine z75 _ _ _ rfl ?_
        obtain rfl := someI hM24
        refine zz24 _ _ _ _ rfl rfl ?_
        exact je24_1 _ _ eje27_1_2 hst (ho24 _ rfl)
      refine loopQ (fun s a w => ∃ (x86 : Int) (x87 : Int) (f : Nat → Value), (x86, x87) = s ∧ a = fr 84 f ∧ f 1 = .pointer (some ⟨b9, 0, none⟩) ∧ f 4 = .int .i64 x86 ∧ f 49 = .int .i64 x2 ∧ f 50 = .int .i64 x52 ∧ f 66 = (subH h6 1 x78 x79).v ∧ f 67 = .int .i64 (x80.length : Int) ∧ f 68 = .int .i64 x87 ∧ St w0 (imm (rI .i64) (subH h6 1 x78 x79).v x80 :: ros) (box b9 42 [.int .i64 x1, .int .i64 x2, h4.v, h6.v, h8.v] :: rs) w) go27 ⟨_, _, _, rfl, rfl, e24_1, rfl, e24_49, e24_50, rfl, rfl, rfl, hst⟩ ?_
      clear hst
      rintro _ _ w r27_ ⟨x86, x87, f, rfl, rfl, e27_1, e27_4, e27_49, e27_50, e27_66, e27_67, e27_68, hst⟩ hM27 ho27 Q100027 n27 zz27
      refine seqQ fun Q97 k97 z97 => ?_
      refine wp_region_lit ?_
      refine Y wn rfl (ylss (et rfl e27_68) (et rfl e27_67)) ?_
      refine wpList_nil ?_
      refine k97 _ _ ?_
      refine seqQ fun Q98 k98 z98 => ?_
      rcases iteS hM27 with ⟨c95, hM27⟩ | ⟨c95, hM27⟩
      · refine condT (et rfl rfl) (decide_eq_true c95) ?_
        refine wp_skip ?_
        refine k98 _ _ ?_
        refine seqQ fun Q99 k99 z99 => ?_
        refine blockQ fun Q100 qb100 => ?_
        refine seqQ fun Q101 k101 z101 => ?_
        refine wp_region_lit ?_
        obtain ⟨x96, gx96, hM27⟩ := bs hM27
        refine Y wn rfl (yIa SL_22 (et rfl e27_66) (et rfl e27_68) hst (rdI mhF) gx96) ?_
        refine Y wn rfl (yI O_3 (et rfl rfl) hst (rdI mhF) gx96) ?_
        refine Y wn rfl (ya (v := .int .i64 x96) (et rfl rfl)) ?_
        refine wpList_nil ?_
        refine k101 _ _ ?_
        refine seqQ fun Q102 k102 z102 => ?_
        refine seqQ fun Q103 k103 z103 => ?_
        refine wp_region_lit ?_
        refine Y wn rfl (ym (v := .int .i64 x96) (et rfl rfl)) ?_
        refine Y wn rfl (ym (v := .int .i64 x86) (et rfl e27_4)) ?_
        refine Y wn rfl (yleq (et rfl rfl) (et rfl rfl)) ?_
        refine Y wn rfl (ym (v := .bool (decide (x96 ≤ x86))) (et rfl rfl)) ?_
        refine joinW 5 (fun f w => f 1 = .pointer (some ⟨b9, 0, none⟩) ∧ f 6 = .int .i64 x96 ∧ f 49 = .int .i64 x2 ∧ f 50 = .int .i64 x52 ∧ f 66 = (subH h6 1 x78 x79).v ∧ f 67 = .int .i64 (x80.length : Int) ∧ f 68 = .int .i64 x87 ∧ f 80 = .bool ((decide (x96 ≤ x86)) || (decide (x1 ≤ x96))) ∧ St w0 (imm (rI .i64) (subH h6 1 x78 x79).v x80 :: ros) (box b9 42 [.int .i64 x1, .int .i64 x2, h4.v, h6.v, h8.v] :: rs) w) (fun j28 => ?_) ?_
        · rcases Bool.eq_false_or_eq_true (decide (x96 ≤ x86)) with c98 | c98
          · refine Gn (wx rfl rfl rfl c98) rfl ?_
            refine Gn (wx rfl rfl rfl c98) rfl ?_
            refine Gn (wx rfl rfl rfl c98) rfl ?_
            refine Gn (wx rfl rfl rfl c98) rfl ?_
            refine Y wn rfl (ypt (v := .bool true) (et rfl rfl) c98 rfl) ?_
            exact j28 _ _ ⟨e27_1, rfl, e27_49, e27_50, e27_66, e27_67, e27_68, (congrArg Value.bool (orT c98)), hst⟩
          · refine Y (wg rfl rfl rfl c98) rfl (ym (v := .int .i64 x96) (et rfl rfl)) ?_
            refine Y (wg rfl rfl rfl c98) rfl (yFb FL_42_0 (et rfl e27_1)) ?_
            refine Y (wg rfl rfl rfl c98) rfl (yLb (u := .int .i64 x1) O_3 (et rfl rfl) hst mhR rfl) ?_
            refine Y (wg rfl rfl rfl c98) rfl (ygeq (et rfl rfl) (et rfl rfl)) ?_
            refine Y wn rfl (ypf (v := .bool (decide (x1 ≤ x96))) (et rfl rfl) c98 (et rfl rfl)) ?_
            exact j28 _ _ ⟨e27_1, rfl, e27_49, e27_50, e27_66, e27_67, e27_68, (congrArg Value.bool (orF c98)), hst⟩
        clear hst
        rintro f w ⟨e97_1, e97_6, e97_49, e97_50, e97_66, e97_67, e97_68, e97_80, hst⟩
        refine wpList_nil ?_
        refine k103 _ _ ?_
        rcases iteS hM27 with ⟨c99, hM27⟩ | ⟨c99, hM27⟩
        · refine condT (et rfl e97_80) c99 ?_
          refine seqQ fun Q104 k104 z104 => ?_
          refine wp_region_lit ?_
          refine Y wn rfl (ya (v := .bool false) rfl) ?_
          refine wpList_nil ?_
          refine k104 _ _ ?_
          refine wp_ret ?_
          refine z102 _ _ _ rfl ?_
          refine qb100 _ _ _ ?_
          refine z99 _ _ _ rfl ?_
          obtain rfl := someI hM27
          refine zz27 _ _ _ _ rfl rfl ?_
          exact je27_1 _ _ rfl ((hst.pk 1 [] rfl).facts (allT allI)) (ho27 _ rfl)
        · refine condF (et rfl e97_80) (bfalse c99) ?_
          refine wp_skip ?_
          refine k102 _ _ ?_
          refine wp_region_lit ?_
          refine Y wn rfl (ym (v := .int .i64 x96) (et rfl e97_6)) ?_
          refine Y wn rfl (ya (v := .int .i64 x96) (et rfl rfl)) ?_
          refine wpList_nil ?_
          refine qb100 _ _ _ ?_
          refine k99 _ _ ?_
          refine wp_region_lit ?_
          refine Y wn rfl (yadd (et rfl e97_68) rfl) ?_
          refine Y wn rfl (ym (v := .int .i64 (wa .i64 x87 1)) (et rfl rfl)) ?_
          refine wpList_nil ?_
          obtain rfl := someI hM27
          exact n27 _ _ _ rfl ⟨_, _, _, rfl, rfl, e97_1, rfl, e97_49, e97_50, e97_66, e97_67, rfl, hst⟩
      · refine condF (et rfl rfl) (decide_eq_false c95) ?_
        refine wp_exit ?_
        refine z98 _ _ _ rfl ?_
        obtain rfl := someI hM27
        refine zz27 _ _ _ _ rfl rfl ?_
        exact je27_0 _ _ e27_1 e27_49 e27_50 (hst.facts (allT allI)) (ho27 _ rfl)
    · refine condF (et rfl rfl) (decide_eq_false c77) ?_
      refine wp_exit ?_
      refine z74 _ _ _ rfl ?_
      obtain rfl := someI hM24
      refine zz24 _ _ _ _ rfl rfl ?_
      exact je24_0 _ _ (hst.pk 1 [] rfl) (ho24 _ rfl)

theorem float_parts_ok {w0 : World} {ros : List Fact} {rs : List Res} {w : World} {x1 : Int} {out : Int × Int} (hM : float_parts x1 = some out) (hst : St w0 ros (rs) w) :
    Calls Try.prog 86 #[.int .u64 x1] w (fun e w => e = .returned (.tuple #[.int .i64 out.1, .int .u64 out.2]) ∧ St w0 (ros) (rs) w) := by
  refine enterQ Try.func86 rfl Try.ntmps86 rfl fun Q hQ => ?_
  refine seqQ fun Q1 k1 z1 => ?_
  refine wp_region_lit ?_
  refine Y wn rfl (ya (v := .int .i64 0) rfl) ?_
  refine Y wn rfl (ya (v := .int .u64 0) rfl) ?_
  refine wpList_nil ?_
  refine k1 _ _ ?_
  refine seqQ fun Q2 k2 z2 => ?_
  refine wp_region_lit ?_
  refine Y wn rfl (ym (v := .int .u64 x1) (et rfl rfl)) ?_
  refine Y wn rfl (yshrc (et rfl rfl) rfl) ?_
  refine Y wn rfl (yand (et rfl rfl) rfl) ?_
  refine Y wn rfl (ycv (k' := .i64) (by kernel_rfl) (by kernel_rfl) (et rfl rfl)) ?_
  refine Y wn rfl (ym (v := .int .u64 x1) (et rfl rfl)) ?_
  refine Y wn rfl (yand (et rfl rfl) rfl) ?_
  refine Y wn rfl (ya (v := .int .i64 (wc .i64 (wand .u64 (wsrc .u64 x1 52) 2047))) (et rfl rfl)) ?_
  refine Y wn rfl (ya (v := .int .u64 (wand .u64 x1 4503599627370495)) (et rfl rfl)) ?_
  refine wpList_nil ?_
  refine k2 _ _ ?_
  refine wp_ret ?_
  obtain rfl := someI hM
  exact hQ _ _ _ (fin2r Try.results86 ⟨rfl, rfl⟩ ⟨rfl, rfl⟩ ⟨rfl, hst⟩)

theorem float_IsFinite_ok {w0 : World} {ros : List Fact} {rs : List Res} {w : World} {x1 : Int} {out : Bool} (hM : float_IsFinite x1 = some out) (hst : St w0 ros (rs) w) :
    Calls Try.prog 68 #[.int .u64 x1] w (fun e w => e = .returned (.bool out) ∧ St w0 (ros) (rs) w) := by
  refine enterQ Try.func68 rfl Try.ntmps68 rfl fun Q hQ => ?_
  refine seqQ fun Q1 k1 z1 => ?_
  refine wp_region_lit ?_
  refine Y wn rfl (ya (v := .bool false) rfl) ?_
  refine wpList_nil ?_
  refine k1 _ _ ?_
  refine seqQ fun Q2 k2 z2 => ?_
  refine wp_region_lit ?_
  refine Y wn rfl (ym (v := .int .u64 x1) (et rfl rfl)) ?_
  obtain ⟨r2, gr2, hM⟩ := bs hM
  refine Yc wn rfl (yCall FN_86 (a1 (et rfl rfl))) (float_parts_ok (hM := gr2) (hst := hst) ) ?_
  clear hst
  rintro _ w ⟨rfl, hst⟩
  refine ⟨_, rfl, ?_⟩
  refine Y wn rfl (ym (v := .tuple #[.int .i64 r2.1, .int .u64 r2.2]) (et rfl rfl)) ?_
  refine Y wn rfl (yx (v := .int .i64 r2.1) (et rfl rfl) rfl) ?_
  refine Y wn rfl (yx (v := .int .u64 r2.2) (et rfl rfl) rfl) ?_
  refine Y wn rfl (ya (v := .int .i64 r2.1) (et rfl rfl)) ?_
  refine Y wn rfl (ya (v := .int .u64 r2.2) (et rfl rfl)) ?_
  refine wpList_nil ?_
  refine k2 _ _ ?_
  refine seqQ fun Q3 k3 z3 => ?_
  refine wp_region_lit ?_
  refine Y wn rfl (ym (v := .int .i64 r2.1) (et rfl rfl)) ?_
  refine Y wn rfl (yneq (et rfl rfl) rfl) ?_
  refine Y wn rfl (ya (v := .bool (!(decide (r2.1 = 2047)))) (et rfl rfl)) ?_
  refine wpList_nil ?_
  refine k3 _ _ ?_
  refine wp_ret ?_
  obtain rfl := someI hM
  exact hQ _ _ _ (fin1r Try.results68 ⟨rfl, rfl⟩ ⟨rfl, hst⟩)

theorem matrix_Check_1_ok {w0 : World} {ros : List Fact} {rs : List Res} {w : World} {x1 : Int} {out : Bool} (hM : matrix_Check_1 x1 = some out) (hst : St w0 ros (rs) w) :
    Calls Try.prog 67 #[.int .u64 x1] w (fun e w => e = .returned (.bool out) ∧ St w0 (ros) (rs) w) := by
  refine enterQ Try.func67 rfl Try.ntmps67 rfl fun Q hQ => ?_
  refine seqQ fun Q1 k1 z1 => ?_
  refine wp_region_lit ?_
  refine Y wn rfl (ya (v := .bool false) rfl) ?_
  refine wpList_nil ?_
  refine k1 _ _ ?_
  refine seqQ fun Q2 k2 z2 => ?_
  refine wp_region_lit ?_
  refine Y wn rfl (ym (v := .int .u64 x1) (et rfl rfl)) ?_
  obtain ⟨r2, gr2, hM⟩ := bs hM
  refine Yc wn rfl (yCall FN_68 (a1 (et rfl rfl))) (float_IsFinite_ok (hM := gr2) (hst := hst) ) ?_
  clear hst
  rintro _ w ⟨rfl, hst⟩
  refine ⟨_, rfl, ?_⟩
  refine Y wn rfl (ynot (et rfl rfl)) ?_
  refine Y wn rfl (ya (v := .bool (!(r2))) (et rfl rfl)) ?_
  refine wpList_nil ?_
  refine k2 _ _ ?_
  refine wp_ret ?_
  obtain rfl := someI hM
  exact hQ _ _ _ (fin1r Try.results67 ⟨rfl, rfl⟩ ⟨rfl, hst⟩)

theorem slices_IndexFunc_apiFloat_ok {w0 : World} {ros : List Fact} {rs : List Res} {w : World} {x1 : List Int} {h2 : Hdr} {out : Int} (hM : slices_IndexFunc_apiFloat x1 = some out) (q1 : imm (rI .u64) h2.v x1 ∈ ros) (hst : St w0 ros (rs) w) :
    Calls Try.prog 85 #[h2.v, .func (.func 67) #[] #[]] w (fun e w => e = .returned (.int .i64 out) ∧ St w0 (ros) (rs) w) := by
  refine enterQ Try.func85 rfl Try.ntmps85 rfl fun Q hQ => ?_
  refine seqQ fun Q1 k1 z1 => ?_
  refine wp_region_lit ?_
  refine Y wn rfl (ya (v := .int .i64 0) rfl) ?_
  refine wpList_nil ?_
  refine k1 _ _ ?_
  refine seqQ fun Q2 k2 z2 => ?_
  refine seqQ fun Q3 k3 z3 => ?_
  refine wp_region_lit ?_
  refine Y wn rfl (ym (v := h2.v) (et rfl rfl)) ?_
  refine Y wn rfl (yLen SL_40 (et rfl rfl) hst (rdI q1)) ?_
  refine Y wn rfl (ym (v := .int .i64 0) rfl) ?_
  refine wpList_nil ?_
  refine k3 _ _ ?_
  refine blockQ fun Q4 qb4 => ?_
  obtain ⟨o1, go1, hM⟩ := bs hM
  have je1_0 : ∀ (f : Nat → Value) (w : World), St w0 (ros) (rs) w → .inl () = o1 → Q4 (.exit 0) (fr 19 f) w := by
    intro f w hst ho
    subst ho
    refine qb4 _ _ _ ?_
    refine k2 _ _ ?_
    refine seqQ fun Q19 k19 z19 => ?_
    refine wp_region_lit ?_
    refine Y wn rfl (ya (v := .int .i64 (-1)) rfl) ?_
    refine wpList_nil ?_
    refine k19 _ _ ?_
    refine wp_ret ?_
    obtain rfl := someI hM
    exact hQ _ _ _ (fin1r Try.results85 ⟨rfl, rfl⟩ ⟨rfl, hst⟩)
  have je1_1 : ∀ (x13 : Int) (f : Nat → Value) (w : World), f 4 = .int .i64 x13 → St w0 (ros) (rs) w → .inr x13 = o1 → Q4 .ret (fr 19 f) w := by
    intro x13 f w eje1_1_4 hst ho
    subst ho
    refine qb4 _ _ _ ?_
    refine z2 _ _ _ rfl ?_
    obtain rfl := someI hM
    exact hQ _ _ _ (fin1r Try.results85 ⟨rfl, eje1_1_4⟩ ⟨rfl, hst⟩)
  refine loopQ (fun s a w => ∃ (x7 : Int) (f : Nat → Value), x7 = s ∧ a = fr 19 f ∧ f 0 = h2.v ∧ f 1 = .func (.func 67) #[] #[] ∧ f 7 = .int .i64 (x1.length : Int) ∧ f 8 = .int .i64 x7 ∧ St w0 (ros) (rs) w) go1 ⟨_, _, rfl, rfl, rfl, rfl, rfl, rfl, hst⟩ ?_
  clear hst
  rintro _ _ w r1_ ⟨x7, f, rfl, rfl, e1_0, e1_1, e1_7, e1_8, hst⟩ hM1 ho1 Q100001 n1 zz1
  refine seqQ fun Q20 k20 z20 => ?_
  refine wp_region_lit ?_
  refine Y wn rfl (ylss (et rfl e1_8) (et rfl e1_7)) ?_
  refine wpList_nil ?_
  refine k20 _ _ ?_
  refine seqQ fun Q21 k21 z21 => ?_
  rcases iteS hM1 with ⟨c14, hM1⟩ | ⟨c14, hM1⟩
  · refine condT (et rfl rfl) (decide_eq_true c14) ?_
    refine wp_skip ?_
    refine k21 _ _ ?_
    refine seqQ fun Q22 k22 z22 => ?_
    refine blockQ fun Q23 qb23 => ?_
    refine seqQ fun Q24 k24 z24 => ?_
    refine wp_region_lit ?_
    refine Y wn rfl (ym (v := .int .i64 x7) (et rfl e1_8)) ?_
    refine Y wn rfl (ya (v := .int .i64 x7) (et rfl rfl)) ?_
    refine wpList_nil ?_
    refine k24 _ _ ?_
    refine seqQ fun Q25 k25 z25 => ?_
    refine wp_region_lit ?_
    refine Y wn rfl (ym (v := .func (.func 67) #[] #[]) (et rfl e1_1)) ?_
    refine Y wn rfl (ym (v := h2.v) (et rfl e1_0)) ?_
    refine Y wn rfl (ym (v := .int .i64 x7) (et rfl rfl)) ?_
    obtain ⟨x15, gx15, hM1⟩ := bs hM1
    refine Y wn rfl (yIa SL_40 (et rfl rfl) (et rfl rfl) hst (rdI q1) gx15) ?_
    refine Y wn rfl (yI O_75 (et rfl rfl) hst (rdI q1) gx15) ?_
    obtain ⟨r16, gr16, hM1⟩ := bs hM1
    refine Yc wn rfl (yCallw FN_67 (et rfl rfl) (a1 (et rfl rfl))) (matrix_Check_1_ok (hM := gr16) (hst := hst) ) ?_
    clear hst
    rintro _ w ⟨rfl, hst⟩
    refine ⟨_, rfl, ?_⟩
    refine wpList_nil ?_
    refine k25 _ _ ?_
    rcases iteS hM1 with ⟨c17, hM1⟩ | ⟨c17, hM1⟩
    · refine condT (et rfl rfl) c17 ?_
      refine seqQ fun Q26 k26 z26 => ?_
      refine wp_region_lit ?_
      refine Y wn rfl (ym (v := .int .i64 x7) (et rfl rfl)) ?_
      refine Y wn rfl (ya (v := .int .i64 x7) (et rfl rfl)) ?_
      refine wpList_nil ?_
      refine k26 _ _ ?_
      refine wp_ret ?_
      refine qb23 _ _ _ ?_
      refine z22 _ _ _ rfl ?_
      obtain rfl := someI hM1
      refine zz1 _ _ _ _ rfl rfl ?_
      exact je1_1 _ _ _ rfl hst (ho1 _ rfl)
    · refine condF (et rfl rfl) (bfalse c17) ?_
      refine wp_skip ?_
      refine qb23 _ _ _ ?_
      refine k22 _ _ ?_
      refine wp_region_lit ?_
      refine Y wn rfl (yadd (et rfl e1_8) rfl) ?_
      refine Y wn rfl (ym (v := .int .i64 (wa .i64 x7 1)) (et rfl rfl)) ?_
      refine wpList_nil ?_
      obtain rfl := someI hM1
      exact n1 _ _ _ rfl ⟨_, _, rfl, rfl, e1_0, e1_1, e1_7, rfl, hst⟩
  · refine condF (et rfl rfl) (decide_eq_false c14) ?_
    refine wp_exit ?_
    refine z21 _ _ _ rfl ?_
    obtain rfl := someI hM1
    refine zz1 _ _ _ _ rfl rfl ?_
    exact je1_0 _ _ hst (ho1 _ rfl)

theorem slices_ContainsFunc_apiFloat_ok {w0 : World} {ros : List Fact} {rs : List Res} {w : World} {x1 : List Int} {h2 : Hdr} {out : Bool} (hM : slices_ContainsFunc_apiFloat x1 = some out) (q1 : imm (rI .u64) h2.v x1 ∈ ros) (hst : St w0 ros (rs) w) :
    Calls Try.prog 66 #[h2.v, .func (.func 67) #[] #[]] w (fun e w => e = .returned (.bool out) ∧ St w0 (ros) (rs) w) := by
  refine enterQ Try.func66 rfl Try.ntmps66 rfl fun Q hQ => ?_
  refine seqQ fun Q1 k1 z1 => ?_
  refine wp_region_lit ?_
  refine Y wn rfl (ya (v := .bool false) rfl) ?_
  refine wpList_nil ?_
  refine k1 _ _ ?_
  refine seqQ fun Q2 k2 z2 => ?_
  refine wp_region_lit ?_
  refine Y wn rfl (ym (v := h2.v) (et rfl rfl)) ?_
  refine Y wn rfl (ym (v := .func (.func 67) #[] #[]) (et rfl rfl)) ?_
  obtain ⟨r3, gr3, hM⟩ := bs hM
  refine Yc wn rfl (yCall FN_85 (a2 (et rfl rfl) (et rfl rfl))) (slices_IndexFunc_apiFloat_ok (hM := gr3) (hst := hst) (q1 := q1)) ?_
  clear hst
  rintro _ w ⟨rfl, hst⟩
  refine ⟨_, rfl, ?_⟩
  refine Y wn rfl (ygeq (et rfl rfl) rfl) ?_
  refine Y wn rfl (ya (v := .bool (decide ((0 : Int) ≤ r3))) (et rfl rfl)) ?_
  refine wpList_nil ?_
  refine k2 _ _ ?_
  refine wp_ret ?_
  obtain rfl := someI hM
  exact hQ _ _ _ (fin1r Try.results66 ⟨rfl, rfl⟩ ⟨rfl, hst⟩)

theorem matrix_Check_ok {w0 : World} {ros : List Fact} {rs : List Res} {w : World} {x1 : Int} {x2 : Int} {x3 : List Int} {x5 : List Int} {x7 : List Int} {h4 : Hdr} {h6 : Hdr} {h8 : Hdr} {out : Int} (hM : matrix_Check x1 x2 x3 x5 x7 = some out) (q1 : imm (rI .i64) h4.v x3 ∈ ros) (q2 : imm (rI .i64) h6.v x5 ∈ ros) (q3 : imm (rI .u64) h8.v x7 ∈ ros) (hst : St w0 ros (rs) w) :
    Calls Try.prog 49 #[.agg #[.int .i64 x1, .int .i64 x2, h4.v, h6.v, h8.v]] w (fun e w => e = .returned (.int .i64 out) ∧ St w0 (ros) (rs) w) := by
  refine enterQ Try.func49 rfl Try.ntmps49 rfl fun Q hQ => ?_
  refine seqQ fun Q1 k1 z1 => ?_
  refine wp_region_lit ?_
  refine YB wn rfl (r_box (vals := [.int .i64 x1, .int .i64 x2, h4.v, h6.v, h8.v]) hst (et rfl rfl) rfl) ?_
  clear hst
  intro b9 w hst
  refine Y wn rfl (ya (v := .int .i64 0) rfl) ?_
  refine wpList_nil ?_
  refine k1 _ _ ?_
  refine seqQ fun Q2 k2 z2 => ?_
  refine blockQ fun Q3 qb3 => ?_
  refine seqQ fun Q4 k4 z4 => ?_
  refine wp_region_lit ?_
  refine Y wn rfl (yFb FL_42_0 (et rfl rfl)) ?_
  refine Y wn rfl (yLb (u := .int .i64 x1) O_3 (et rfl rfl) hst mhR rfl) ?_
  obtain ⟨r10, gr10, hM⟩ := bs hM
  refine Yc wn rfl (yCall FN_64 (a3 (et rfl rfl) rfl rfl)) (matrix_within_ok (hM := gr10) (hst := hst) ) ?_
  clear hst
  rintro _ w ⟨rfl, hst⟩
  refine ⟨_, rfl, ?_⟩
  refine Y wn rfl (ynot (et rfl rfl)) ?_
  refine Y wn rfl (ym (v := .bool (!(r10))) (et rfl rfl)) ?_
  obtain ⟨r12, gr12, hM⟩ := bs hM
  refine joinW 5 (fun f w => f 1 = .pointer (some ⟨b9, 0, none⟩) ∧ f 13 = .bool r12 ∧ St w0 (ros) (box b9 42 [.int .i64 x1, .int .i64 x2, h4.v, h6.v, h8.v] :: rs) w) (fun j1 => ?_) ?_
  · rcases iteS gr12 with ⟨c14, gr12⟩ | ⟨c14, gr12⟩
    · refine Y (wg rfl rfl rfl (nF c14)) rfl (yFb FL_42_1 (et rfl rfl)) ?_
      refine Y (wg rfl rfl rfl (nF c14)) rfl (yLb (u := .int .i64 x2) O_3 (et rfl rfl) hst mhR rfl) ?_
      obtain ⟨r15, gr15, gr12⟩ := bs gr12
      refine Yc (wg rfl rfl rfl (nF c14)) rfl (yCall FN_64 (a3 (et rfl rfl) rfl rfl)) (matrix_within_ok (hM := gr15) (hst := hst) ) ?_
      clear hst
      rintro _ w ⟨rfl, hst⟩
      refine ⟨_, rfl, ?_⟩
      refine Y (wg rfl rfl rfl (nF c14)) rfl (ynot (et rfl rfl)) ?_
      refine Y wn rfl (ypf (v := .bool (!(r15))) (et rfl rfl) (nF c14) (et rfl rfl)) ?_
      obtain rfl := someI gr12
      exact j1 _ _ ⟨rfl, rfl, hst⟩
    · refine Gn (wx rfl rfl rfl (nT (bfalse c14))) rfl ?_
      refine Gn (wx rfl rfl rfl (nT (bfalse c14))) rfl ?_
      refine Gn (wx rfl rfl rfl (nT (bfalse c14))) rfl ?_
      refine Gn (wx rfl rfl rfl (nT (bfalse c14))) rfl ?_
      refine Y wn rfl (ypt (v := .bool true) (et rfl rfl) (nT (bfalse c14)) rfl) ?_
      obtain rfl := someI gr12
      exact j1 _ _ ⟨rfl, rfl, hst⟩
  clear hst
  rintro f w ⟨e13_1, e13_13, hst⟩
  refine Y wn rfl (ym (v := .bool r12) (et rfl e13_13)) ?_
  refine joinW 5 (fun f w => f 1 = .pointer (some ⟨b9, 0, none⟩) ∧ f 19 = .bool (r12 || (decide ((10000 : Int) < (x5.length : Int)))) ∧ St w0 (ros) (box b9 42 [.int .i64 x1, .int .i64 x2, h4.v, h6.v, h8.v] :: rs) w) (fun j2 => ?_) ?_
  · rcases Bool.eq_false_or_eq_true (r12) with c17 | c17
    · refine Gn (wx rfl rfl rfl c17) rfl ?_
      refine Gn (wx rfl rfl rfl c17) rfl ?_
      refine Gn (wx rfl rfl rfl c17) rfl ?_
      refine Gn (wx rfl rfl rfl c17) rfl ?_
      refine Y wn rfl (ypt (v := .bool true) (et rfl rfl) c17 rfl) ?_
      exact j2 _ _ ⟨e13_1, (congrArg Value.bool (orT c17)), hst⟩
    · refine Y (wg rfl rfl rfl c17) rfl (yFb FL_42_3 (et rfl e13_1)) ?_
      refine Y (wg rfl rfl rfl c17) rfl (yLb (u := h6.v) O_22 (et rfl rfl) hst mhR rfl) ?_
      refine Y (wg rfl rfl rfl c17) rfl (yLen SL_22 (et rfl rfl) hst (rdI q2)) ?_
      refine Y (wg rfl rfl rfl c17) rfl (ygtr (et rfl rfl) rfl) ?_
      refine Y wn rfl (ypf (v := .bool (decide ((10000 : Int) < (x5.length : Int)))) (et rfl rfl) c17 (et rfl rfl)) ?_
      exact j2 _ _ ⟨e13_1, (congrArg Value.bool (orF c17)), hst⟩
  clear hst
  rintro f w ⟨e16_1, e16_19, hst⟩
  refine Y wn rfl (ya (v := .bool (r12 || (decide ((10000 : Int) < (x5.length : Int))))) (et rfl e16_19)) ?_
  refine wpList_nil ?_
  refine k4 _ _ ?_
  rcases iteS hM with ⟨c18, hM⟩ | ⟨c18, hM⟩
  · refine condT (et rfl rfl) c18 ?_
    refine seqQ fun Q5 k5 z5 => ?_
    refine wp_region_lit ?_
    refine Y wn rfl (ya (v := .int .i64 6) rfl) ?_
    refine wpList_nil ?_
    refine k5 _ _ ?_
    refine wp_ret ?_
    refine qb3 _ _ _ ?_
    refine z2 _ _ _ rfl ?_
    obtain rfl := someI hM
    exact hQ _ _ _ (fin1r Try.results49 ⟨rfl, rfl⟩ ⟨rfl, (hst.pk 1 [] rfl)⟩)
  · refine condF (et rfl rfl) (bfalse c18) ?_
    refine seqQ fun Q6 k6 z6 => ?_
    refine wp_region_lit ?_
    refine Y wn rfl (yLbs (us := [.int .i64 x1, .int .i64 x2, h4.v, h6.v, h8.v]) ST_42 (et rfl e16_1) hst mhR rfl rfl) ?_
    obtain ⟨r19, gr19, hM⟩ := bs hM
    refine Yc wn rfl (yCall FN_65 (a1 (et rfl rfl))) (matrix_columns_ok (hM := gr19) (hst := hst) (q1 := q1) (q2 := q2) (q3 := q3)) ?_
    clear hst
    rintro _ w ⟨rfl, hst⟩
    refine ⟨_, rfl, ?_⟩
    refine Y wn rfl (ynot (et rfl rfl)) ?_
    refine Y wn rfl (ya (v := .bool (!(r19))) (et rfl rfl)) ?_
    refine wpList_nil ?_
    refine k6 _ _ ?_
    rcases iteS hM with ⟨c20, hM⟩ | ⟨c20, hM⟩
    · refine condF (et rfl rfl) (nF c20) ?_
      refine seqQ fun Q7 k7 z7 => ?_
      refine wp_region_lit ?_
      refine Y wn rfl (yFb FL_42_4 (et rfl e16_1)) ?_
      refine Y wn rfl (yLb (u := h8.v) O_40 (et rfl rfl) hst mhR rfl) ?_
      obtain ⟨r21, gr21, hM⟩ := bs hM
      refine Yc wn rfl (yCall FN_66 (a2 (et rfl rfl) rfl)) (slices_ContainsFunc_apiFloat_ok (hM := gr21) (hst := hst) (q1 := q3)) ?_
      clear hst
      rintro _ w ⟨rfl, hst⟩
      refine ⟨_, rfl, ?_⟩
      refine Y wn rfl (ya (v := .bool r21) (et rfl rfl)) ?_
      refine wpList_nil ?_
      refine k7 _ _ ?_
      rcases iteS hM with ⟨c22, hM⟩ | ⟨c22, hM⟩
      · refine condT (et rfl rfl) c22 ?_
        refine seqQ fun Q8 k8 z8 => ?_
        refine wp_region_lit ?_
        refine Y wn rfl (ya (v := .int .i64 4) rfl) ?_
        refine wpList_nil ?_
        refine k8 _ _ ?_
        refine wp_ret ?_
        refine qb3 _ _ _ ?_
        refine z2 _ _ _ rfl ?_
        obtain rfl := someI hM
        exact hQ _ _ _ (fin1r Try.results49 ⟨rfl, rfl⟩ ⟨rfl, (hst.pk 1 [] rfl)⟩)
      · refine condF (et rfl rfl) (bfalse c22) ?_
        refine wp_skip ?_
        refine qb3 _ _ _ ?_
        refine k2 _ _ ?_
        refine seqQ fun Q9 k9 z9 => ?_
        refine wp_region_lit ?_
        refine Y wn rfl (ya (v := .int .i64 0) rfl) ?_
        refine wpList_nil ?_
        refine k9 _ _ ?_
        refine wp_ret ?_
        obtain rfl := someI hM
        exact hQ _ _ _ (fin1r Try.results49 ⟨rfl, rfl⟩ ⟨rfl, (hst.pk 1 [] rfl)⟩)
    · refine condT (et rfl rfl) (nT (bfalse c20)) ?_
      refine seqQ fun Q10 k10 z10 => ?_
      refine wp_region_lit ?_
      refine Y wn rfl (ya (v := .int .i64 1) rfl) ?_
      refine wpList_nil ?_
      refine k10 _ _ ?_
      refine wp_ret ?_
      refine qb3 _ _ _ ?_
      refine z2 _ _ _ rfl ?_
      obtain rfl := someI hM
      exact hQ _ _ _ (fin1r Try.results49 ⟨rfl, rfl⟩ ⟨rfl, (hst.pk 1 [] rfl)⟩)

theorem matrix_entries_ok {w0 : World} {ros : List Fact} {rs : List Res} {w : World} {x1 : Int} {x2 : Int} {x3 : List Int} {x5 : List Int} {x7 : List Int} {h4 : Hdr} {h6 : Hdr} {h8 : Hdr} {out : (List (Int × Int × Int))} (hM : matrix_entries x1 x2 x3 x5 x7 = some out) (q1 : imm (rI .i64) h4.v x3 ∈ ros) (q2 : imm (rI .i64) h6.v x5 ∈ ros) (q3 : imm (rI .u64) h8.v x7 ∈ ros) (hst : St w0 ros (rs) w) :
    Calls Try.prog 69 #[.agg #[.int .i64 x1, .int .i64 x2, h4.v, h6.v, h8.v]] w (fun e w => ∃ (h100001 : Hdr), e = .returned (h100001.v) ∧ St w0 (ros) (row 77 rTi64i64u64 h100001.v out :: rs) w) := by
  refine enterQ Try.func69 rfl Try.ntmps69 rfl fun Q hQ => ?_
  refine seqQ fun Q1 k1 z1 => ?_
  refine wp_region_lit ?_
  refine YB wn rfl (r_box (vals := [.int .i64 x1, .int .i64 x2, h4.v, h6.v, h8.v]) hst (et rfl rfl) rfl) ?_
  clear hst
  intro b9 w hst
  refine Y wn rfl (ya (v := hnil.v) rfl) ?_
  refine wpList_nil ?_
  refine k1 _ _ ?_
  refine seqQ fun Q2 k2 z2 => ?_
  refine wp_region_lit ?_
  refine Y wn rfl (ya (v := hnil.v) rfl) ?_
  refine wpList_nil ?_
  refine k2 _ _ ?_
  refine seqQ fun Q3 k3 z3 => ?_
  refine seqQ fun Q4 k4 z4 => ?_
  refine wp_region_lit ?_
  refine Y wn rfl (yFb FL_42_1 (et rfl rfl)) ?_
  refine Y wn rfl (yLb (u := .int .i64 x2) O_3 (et rfl rfl) hst mhR rfl) ?_
  refine Y wn rfl (ym (v := .int .i64 0) rfl) ?_
  refine wpList_nil ?_
  refine k4 _ _ ?_
  refine blockQ fun Q5 qb5 => ?_
  obtain ⟨o3, go3, hM⟩ := bs hM
  have je3_0 : ∀ (x79 : List (Int × Int × Int)) (h78 : Hdr) (f : Nat → Value) (w : World), f 3 = h78.v → St w0 (ros) (row 77 rTi64i64u64 h78.v x79 :: rs) w → x79 = o3 → Q5 (.exit 0) (fr 43 f) w := by
    intro x79 h78 f w eje3_0_3 hst ho
    subst ho
    refine qb5 _ _ _ ?_
    refine k3 _ _ ?_
    refine seqQ fun Q44 k44 z44 => ?_
    refine wp_region_lit ?_
    refine Y wn rfl (ym (v := h78.v) (et rfl eje3_0_3)) ?_
    refine Y wn rfl (ya (v := h78.v) (et rfl rfl)) ?_
    refine wpList_nil ?_
    refine k44 _ _ ?_
    refine wp_ret ?_
    obtain rfl := someI hM
    exact hQ _ _ _ (fin1r Try.results69 ⟨rfl, rfl⟩ ⟨_, rfl, hst⟩)
  replace hst := hst.rowNh 77 rTi64i64u64
  refine loopQ (fun s a w => ∃ (x42 : List (Int × Int × Int)) (x43 : Int) (f : Nat → Value) (h41 : Hdr), (x42, x43) = s ∧ a = fr 43 f ∧ f 1 = .pointer (some ⟨b9, 0, none⟩) ∧ f 3 = h41.v ∧ f 7 = .int .i64 x2 ∧ f 8 = .int .i64 x43 ∧ St w0 (ros) (box b9 42 [.int .i64 x1, .int .i64 x2, h4.v, h6.v, h8.v] :: row 77 rTi64i64u64 h41.v x42 :: rs) w) go3 ⟨_, _, _, _, rfl, rfl, rfl, rfl, rfl, rfl, (hst.pk 2 [1, 0] rfl)⟩ ?_
  clear hst
  rintro _ _ w r3_ ⟨x42, x43, f, h41, rfl, rfl, e3_1, e3_3, e3_7, e3_8, hst⟩ hM3 ho3 Q100003 n3 zz3
  refine seqQ fun Q45 k45 z45 => ?_
  refine wp_region_lit ?_
  refine Y wn rfl (ylss (et rfl e3_8) (et rfl e3_7)) ?_
  refine wpList_nil ?_
  refine k45 _ _ ?_
  refine seqQ fun Q46 k46 z46 => ?_
  rcases iteS hM3 with ⟨c80, hM3⟩ | ⟨c80, hM3⟩
  · refine condT (et rfl rfl) (decide_eq_true c80) ?_
    refine wp_skip ?_
    refine k46 _ _ ?_
    refine seqQ fun Q47 k47 z47 => ?_
    refine blockQ fun Q48 qb48 => ?_
    refine seqQ fun Q49 k49 z49 => ?_
    refine wp_region_lit ?_
    refine Y wn rfl (ym (v := .int .i64 x43) (et rfl e3_8)) ?_
    refine Y wn rfl (ya (v := .int .i64 x43) (et rfl rfl)) ?_
    refine wpList_nil ?_
    refine k49 _ _ ?_
    refine seqQ fun Q50 k50 z50 => ?_
    refine wp_region_lit ?_
    refine Y wn rfl (yFb FL_42_2 (et rfl e3_1)) ?_
    refine Y wn rfl (yLb (u := h4.v) O_22 (et rfl rfl) hst mhR rfl) ?_
    refine Y wn rfl (ym (v := .int .i64 x43) (et rfl rfl)) ?_
    obtain ⟨x81, gx81, hM3⟩ := bs hM3
    refine Y wn rfl (yIa SL_22 (et rfl rfl) (et rfl rfl) hst (rdI q1) gx81) ?_
    refine Y wn rfl (yI O_3 (et rfl rfl) hst (rdI q1) gx81) ?_
    refine Y wn rfl (ya (v := .int .i64 x81) (et rfl rfl)) ?_
    refine wpList_nil ?_
    refine k50 _ _ ?_
    refine blockQ fun Q51 qb51 => ?_
    obtain ⟨o4, go4, hM3⟩ := bs hM3
    have je4_0 : ∀ (x103 : List (Int × Int × Int)) (h102 : Hdr) (f : Nat → Value) (w : World), f 1 = .pointer (some ⟨b9, 0, none⟩) → f 3 = h102.v → f 7 = .int .i64 x2 → f 8 = .int .i64 x43 → St w0 (ros) (box b9 42 [.int .i64 x1, .int .i64 x2, h4.v, h6.v, h8.v] :: row 77 rTi64i64u64 h102.v x103 :: rs) w → x103 = o4 → Q51 (.exit 2) (fr 43 f) w := by
      intro x103 h102 f w eje4_0_1 eje4_0_3 eje4_0_7 eje4_0_8 hst ho
      subst ho
      refine qb51 _ _ _ ?_
      refine qb48 _ _ _ ?_
      refine k47 _ _ ?_
      refine wp_region_lit ?_
      refine Y wn rfl (yadd (et rfl eje4_0_8) rfl) ?_
      refine Y wn rfl (ym (v := .int .i64 (wa .i64 x43 1)) (et rfl rfl)) ?_
      refine wpList_nil ?_
      obtain rfl := someI hM3
      exact n3 _ _ _ rfl ⟨_, _, _, _, rfl, rfl, eje4_0_1, eje4_0_3, eje4_0_7, rfl, hst⟩
    refine loopQ (fun s a w => ∃ (x90 : List (Int × Int × Int)) (x91 : Int) (f : Nat → Value) (h89 : Hdr), (x90, x91) = s ∧ a = fr 43 f ∧ f 1 = .pointer (some ⟨b9, 0, none⟩) ∧ f 3 = h89.v ∧ f 4 = .int .i64 x43 ∧ f 5 = .int .i64 x91 ∧ f 7 = .int .i64 x2 ∧ f 8 = .int .i64 x43 ∧ St w0 (ros) (box b9 42 [.int .i64 x1, .int .i64 x2, h4.v, h6.v, h8.v] :: row 77 rTi64i64u64 h89.v x90 :: rs) w) go4 ⟨_, _, _, _, rfl, rfl, e3_1, e3_3, rfl, rfl, e3_7, e3_8, hst⟩ ?_
    clear hst
    rintro _ _ w r4_ ⟨x90, x91, f, h89, rfl, rfl, e4_1, e4_3, e4_4, e4_5, e4_7, e4_8, hst⟩ hM4 ho4 Q100004 n4 zz4
    refine seqQ fun Q60 k60 z60 => ?_
    refine seqQ fun Q61 k61 z61 => ?_
    refine wp_region_lit ?_
    refine Y wn rfl (ym (v := .int .i64 x91) (et rfl e4_5)) ?_
    refine Y wn rfl (yFb FL_42_2 (et rfl e4_1)) ?_
    refine Y wn rfl (yLb (u := h4.v) O_22 (et rfl rfl) hst mhR rfl) ?_
    refine Y wn rfl (ym (v := .int .i64 x43) (et rfl e4_4)) ?_
    refine Y wn rfl (yadd (et rfl rfl) rfl) ?_
    obtain ⟨x104, gx104, hM4⟩ := bs hM4
    refine Y wn rfl (yIa SL_22 (et rfl rfl) (et rfl rfl) hst (rdI q1) gx104) ?_
    refine Y wn rfl (yI O_3 (et rfl rfl) hst (rdI q1) gx104) ?_
    refine Y wn rfl (ylss (et rfl rfl) (et rfl rfl)) ?_
    refine wpList_nil ?_
    refine k61 _ _ ?_
    rcases iteS hM4 with ⟨c105, hM4⟩ | ⟨c105, hM4⟩
    · refine condT (et rfl rfl) (decide_eq_true c105) ?_
      refine wp_skip ?_
      refine k60 _ _ ?_
      refine seqQ fun Q62 k62 z62 => ?_
      refine blockQ fun Q63 qb63 => ?_
      obtain ⟨x106, gx106, hM4⟩ := bs hM4
      obtain ⟨x107, gx107, hM4⟩ := bs hM4
      obtain ⟨x110, gx110, hM4⟩ := bs hM4
      refine wp_drawR [0, 0, 2, 0, 14, 30, 0, 0, 128, 0, 896, 1920, 4094, 8190, 16383, 32767] [13, 14, 15] 3 folM (by kernel_rfl) (by kernel_rfl) (by kernel_rfl) ?_
      replace hst := hst.drew
      refine DRn (l1 := [0, 1, 2, 3, 4, 5, 6, 7, 8, 9, 10, 11, 12]) (l2 := []) (lc := [13]) (by kernel_rfl) (by kernel_rfl) (by kernel_rfl) ?_
      refine Ry rfl rfl wn (ym (v := h89.v) (et rfl e4_3)) ?_
      refine Ry rfl rfl wn (yFb FL_42_3 (et rfl e4_1)) ?_
      refine Ry rfl rfl wn (yLb (u := h6.v) O_22 (et rfl rfl) hst mhR rfl) ?_
      refine Ry rfl rfl wn (ym (v := .int .i64 x91) (et rfl e4_5)) ?_
      refine Ry rfl rfl wn (yIa SL_22 (et rfl rfl) (et rfl rfl) hst (rdI q2) gx106) ?_
      refine Ry rfl rfl wn (yI O_3 (et rfl rfl) hst (rdI q2) gx106) ?_
      refine Ry rfl rfl wn (ym (v := .int .i64 x43) (et rfl e4_4)) ?_
      refine Ry rfl rfl wn (yFb FL_42_4 (et rfl e4_1)) ?_
      refine Ry rfl rfl wn (yLb (u := h8.v) O_40 (et rfl rfl) hst mhR rfl) ?_
      refine Ry rfl rfl wn (ym (v := .int .i64 x91) (et rfl e4_5)) ?_
      refine Ry rfl rfl wn (yIa SL_40 (et rfl rfl) (et rfl rfl) hst (rdI q3) gx107) ?_
      refine Ry rfl rfl wn (yI O_75 (et rfl rfl) hst (rdI q3) gx107) ?_
      refine Ry rfl rfl wn (ybuild (us := [.int .i64 x106, .int .i64 x43, .int .u64 x107]) [(0, .int .i64 x106), (1, .int .i64 x43), (2, .int .u64 x107)] SO_77 (bp3 (et rfl rfl) (et rfl rfl) (et rfl rfl)) rfl) ?_
      refine Rn QSn ?_
      refine Lc rfl ?_ LAn
      refine LH wn (rLt (n := 1) (l := [(x106, x43, x107)]) hst SL_72 [.agg #[.int .i64 x106, .int .i64 x43, .int .u64 x107]] (bp1 (et rfl rfl)) rfl rfl (mks1 (cs := [.int .i64 x106, .int .i64 x43, .int .u64 x107]) rfl (mkF rfl) mks0)) ?_
      clear hst
      intro h108 w hst
      refine DRn (l1 := []) (l2 := [0]) (lc := [14]) (by kernel_rfl) (by kernel_rfl) (by kernel_rfl) ?_
      refine Rn (Sy rfl rfl wn (ym (v := h89.v) (et rfl e4_3)) rfl QSn) ?_
      refine Lc rfl ?_ LAn
      replace hst := hst.pk 3 [2, 0, 0] rfl
      refine LH wn (rAp hst SL_72 (et rfl rfl) (et rfl rfl) (rdO (mtR mhR)) gx110) ?_
      clear hst
      intro h109 w hst
      refine DRn (l1 := []) (l2 := []) (lc := [15]) (by kernel_rfl) (by kernel_rfl) (by kernel_rfl) ?_
      refine Rn QSn ?_
      refine Lc rfl ?_ LAn
      refine Ly wn (ya (v := h109.v) (et rfl rfl)) ?_
      refine DRz (l1 := []) (l2 := []) (by kernel_rfl) (by kernel_rfl) ?_
      refine Rn QSn ?_
      refine qb63 _ _ _ ?_
      refine k62 _ _ ?_
      refine wp_region_lit ?_
      refine Y wn rfl (ym (v := .int .i64 x91) (et rfl e4_5)) ?_
      refine Y wn rfl (yadd (et rfl rfl) rfl) ?_
      refine Y wn rfl (ya (v := .int .i64 (wa .i64 x91 1)) (et rfl rfl)) ?_
      refine wpList_nil ?_
      obtain rfl := someI hM4
      exact n4 _ _ _ rfl ⟨_, _, _, _, rfl, rfl, e4_1, rfl, e4_4, rfl, e4_7, e4_8, (hst.pk 3 [2, 0] rfl)⟩
    · refine condF (et rfl rfl) (decide_eq_false c105) ?_
      refine wp_exit ?_
      refine z60 _ _ _ rfl ?_
      obtain rfl := someI hM4
      refine zz4 _ _ _ _ rfl rfl ?_
      exact je4_0 _ _ _ _ e4_1 e4_3 e4_7 e4_8 hst (ho4 _ rfl)
  · refine condF (et rfl rfl) (decide_eq_false c80) ?_
    refine wp_exit ?_
    refine z46 _ _ _ rfl ?_
    obtain rfl := someI hM3
    refine zz3 _ _ _ _ rfl rfl ?_
    exact je3_0 _ _ _ _ e3_3 (hst.pk 2 [1] rfl) (ho3 _ rfl)
end Go.Proofs.Ytoelidgkfpmgnaa
